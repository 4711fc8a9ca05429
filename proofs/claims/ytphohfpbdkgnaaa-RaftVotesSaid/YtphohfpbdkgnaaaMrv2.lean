/- Proved here: walks: what functions of this seat's program return and what they leave of memory, each as a contract. Conditions: stated at each theorem. -/
import Derived.Test.YtphohfpbdkgnaaaMrv
namespace Go.Proofs.Ytphohfpbdkgnaaa
set_option linter.unusedVariables false
set_option linter.unusedSimpArgs false
open Go
open V (Bytes Meets Env Sl Own Gr Fr Cells S)

theorem app_base (d : LogV) (t : Int) (x : List UInt8) : (appV d t x).base = d.base := by unfold appV; split <;> rfl
theorem app_len (d : LogV) (t : Int) (x : List UInt8) : (appV d t x).l.length ≤ d.l.length + 1 := by unfold appV; split <;> simp


def nV0 (L : LogV) : NodeV := ⟨0, 1, 0, -1, 0, -1, L, L.base, [], false, false, false, 0, 0, 0, 0, 0, 0, [], 0⟩
theorem vi_0 (L : LogV) : VI (nV0 L) (-1, -1) := ⟨rfl, rfl, by show (-1 : Int) ≤ -1 ∧ (-1 : Int) ≤ 2; decide, by show (-1 : Int) ≤ 0; decide, fun h => by cases h⟩
theorem sz_0 {L : LogV} {n : Nat} (h : L.l.length ≤ n) (hn : n ≤ 12) (hb : L.base = 0) : SzV (nV0 L) 0 := ⟨Nat.le_refl _, by show L.l.length ≤ _; omega, by show L.base ≤ _; omega⟩
theorem fits_lens {x : ActV} (h : fitsV x = true) : x.m.es.length ≤ 12 ∧ (∀ e ∈ x.m.es, e.2.length ≤ 1000000) ∧ x.m.da.length ≤ 1000000 := by
  unfold fitsV at h
  rw [decide_eq_true_eq] at h
  obtain ⟨⟨h1, h2⟩, h3, -⟩ := h
  refine ⟨h1, fun e he => ?_, by omega⟩
  obtain ⟨j, hj, rfl⟩ := List.getElem_of_mem he
  have := h2 j hj; omega

set_option maxHeartbeats 4000000 in
set_option maxRecDepth 10000 in
theorem raftVotes_walk {w : World}  {D_own : Nat → Prop} {c_own : Nat} {a_own : Option Addr} {own : List (Int × List UInt8)} (F_own : Sl V.Cod.ent w D_own a_own c_own own) (hD_own : ∀ k, D_own k → k < w.heap.size) {D_sc : Nat → Prop} {c_sc : Nat} {a_sc : Option Addr} {sc : List ActV} (F_sc : Sl V.Cod.act w D_sc a_sc c_sc sc) (hD_sc : ∀ k, D_sc k → k < w.heap.size)  :
    Meets Try.prog 3 [.slice a_own own.length c_own, .slice a_sc sc.length c_sc] w fun r w' => r = .bool true ∧ Gr w w' := by
 have HG := V.Fr.refl [] w
 refine V.enter (n := 152) Try.func3 rfl rfl (by decide) rfl ?_
 refine V.sr ?_
 refine V.ru 1 ?_
 refine V.nt ?_
 refine V.sr ?_
 refine V.call (new_spec (b := 0) (t := 0) (by decide)) rfl rfl rfl ?_
 rintro _ w8 ⟨k1, g2, B3, rfl, ⟨h4l, h4u⟩, F5, h6, h7, G9⟩
 have z10 := V.Fr.size G9
 refine V.ru 5 ?_
 refine V.nt ?_
 refine V.seq ?_
 refine V.sr ?_
 refine V.ru 6 ?_
 refine V.nt ?_
 refine V.condN rfl rfl ?_
 refine V.skip ?_
 refine V.tN ?_
 refine V.seq ?_
 refine V.sr ?_
 refine V.ru 1 ?_
 refine V.nt ?_
 refine V.block ?_
 replace F_own := F_own.gr G9
 have hl63p := F_own.len63
 replace F_sc := F_sc.gr G9
 replace HG := HG.grow G9
 refine V.loopM (fun m e v12 => Fr [] w v12 ∧ w8.heap.size ≤ v12.heap.size ∧ Sl V.Cod.ent v12 D_own a_own c_own own ∧ Sl V.Cod.act v12 D_sc a_sc c_sc sc ∧ ∃ (ip : Nat) (curp : LogV) (gp : Nat) (Bp : Nat → Prop) , m = own.length - ip ∧ ip ≤ own.length ∧ ip ≤ 12 ∧ curp.l.length ≤ ip ∧ curp.base = 0 ∧ (w.heap.size ≤ gp) ∧ (∀ j, Bp j → (w.heap.size ≤ j)) ∧ Lg v12 k1 gp Bp curp ∧ e 0 = .slice a_own own.length c_own ∧ e 1 = .slice a_sc sc.length c_sc ∧ e 5 = .pointer (some ⟨k1, 0, none⟩) ∧ e 7 = .int .i64 (ip : Int)) ?_ ?_
 ·
  exact ⟨_, HG, (by omega), F_own, F_sc, (0), (⟨(0 : Int), (0 : Int), []⟩), (g2), (B3), rfl, (Nat.zero_le _), ((by omega)), ((by simp)), (rfl), ((by omega)), ((by intro j h; grind)), F5, rfl, rfl, rfl, rfl⟩
 clear HG F_own F_sc F5
 rintro _ e v12 ⟨HG, z13, F_own, F_sc, ip, curp, gp, Bp, rfl, hip, hi2p, hclp, hcbp, hglp, hBlp, F5, he0_0, he0_1, he0_5, he0_7⟩
 refine V.knownC (t := 0) he0_0 ?_
 refine V.knownC (t := 1) he0_1 ?_
 refine V.knownC (t := 5) he0_5 ?_
 refine V.knownC (t := 7) he0_7 ?_
 refine V.seq ?_
 refine V.sr ?_
 refine V.ru 5 ?_
 refine V.andG T_ok 2 4 37 rfl rfl rfl rfl rfl rfl rfl rfl ?_
 refine V.nt ?_
 refine V.condT rfl (fun h5 => ?_) (fun h5 => ?_)
 ·
  try replace h5 := V.dec h5
  try simp only [V.mk] at h5
  refine V.skip ?_
  refine V.tN ?_
  refine V.seq ?_
  refine V.block ?_
  refine V.sr ?_
  refine V.ru 2 ?_
  refine V.elem T_ok F_own rfl rfl sz30 rfl rfl rfl rfl V.lenA V.lenA ?_
  rintro b14 o15 cs16 hx17 hb18 hR24 hA19
  obtain ⟨x20, hx20⟩ : ∃ z', own[((ip : Int)).toNat] = z' := ⟨_, rfl⟩
  rw [hx20] at hR24
  obtain ⟨_, _, rfl, rfl, ⟨a21, c22, rfl, F23⟩⟩ := hR24
  try simp only [Int.toNat_natCast] at hx20 hx17
  refine V.ru 1 ?_
  refine V.loadA T_ok (o0 := o15) (off := 1) hA19 rfl rfl rfl rfl rfl ?_
  refine V.ru 2 ?_
  refine V.nt ?_
  refine V.condT rfl (fun h7 => ?_) (fun h7 => ?_)
  ·
   try replace h7 := V.dec h7
   try simp only [V.mk] at h7
   refine V.region ?_
   refine V.ru 3 ?_
   refine V.elem T_ok F_own rfl rfl sz30 rfl rfl rfl rfl V.lenA V.lenA ?_
   rintro b25 o26 cs27 hx28 hb29 hR35 hA30
   obtain ⟨x31, hx31⟩ : ∃ z', own[((ip : Int)).toNat] = z' := ⟨_, rfl⟩
   rw [hx31] at hR35
   obtain ⟨_, _, rfl, rfl, ⟨a32, c33, rfl, F34⟩⟩ := hR35
   try simp only [Int.toNat_natCast] at hx31 hx28
   obtain rfl : x20 = x31 := hx20.symm.trans hx31
   refine V.loadA T_ok (o0 := o26) (off := 0) hA30 rfl rfl rfl rfl rfl ?_
   refine V.call (append_spec (t := x20.1) F5 F34 (fun k hk => by have := hD_own k hk; omega) (by first | omega | simp | decide)) rfl rfl rfl ?_
   rintro _ w41 ⟨g36, B37, rfl, F38, h39, h40, G42⟩
   obtain ⟨w43, G44, G45⟩ := V.Fr.two G42
   have z46 := V.Fr.size G44
   have z47 := V.Fr.size G45
   refine V.nil ?_
   refine V.bN ?_
   refine V.tN ?_
   refine V.region ?_
   refine V.ru 1 ?_
   refine V.addN rfl rfl rfl rfl rfl V.lenA V.lenA ?_
   refine V.ru 1 ?_
   refine V.nt ?_
   have hab := app_base curp x20.1 x20.2
   have hal := app_len curp x20.1 x20.2
   replace F_own := F_own.mb G44 hD_own
   replace F_own := F_own.mb G45 hD_own
   replace F_sc := F_sc.mb G44 hD_sc
   replace F_sc := F_sc.mb G45 hD_sc
   replace HG := HG.n1 G44
   replace HG := HG.n1 G45
   exact ⟨_, (by omega), HG, (by omega), F_own, F_sc, (ip + 1), (appV curp x20.1 x20.2), (g36), (B37), rfl, (by omega), (by omega), ((by omega)), ((by omega)), ((by omega)), ((by intro j h; grind)), F38, rfl, rfl, rfl, rfl⟩
  ·
   try replace h7 := V.dec h7
   try simp only [V.mk] at h7
   refine V.skip ?_
   refine V.bN ?_
   refine V.tN ?_
   refine V.region ?_
   refine V.ru 1 ?_
   refine V.addN rfl rfl rfl rfl rfl V.lenA V.lenA ?_
   refine V.ru 1 ?_
   refine V.nt ?_
   exact ⟨_, (by omega), HG, (by omega), F_own, F_sc, (ip + 1), (curp), (gp), (Bp), rfl, (by omega), (by omega), ((by omega)), ((by omega)), ((by omega)), ((by intro j h; grind)), F5, rfl, rfl, rfl, rfl⟩
 ·
  try replace h5 := V.dec h5
  try simp only [V.mk] at h5
  refine V.exit ?_
  refine V.tX ?_
  refine V.tX ?_
  refine V.bE ?_
  refine V.tN ?_
  refine V.sr ?_
  refine V.ru 1 ?_
  refine V.call (rnew_spec (id := 0) (rg := 1) (te := 0) (vo := (-1)) F5 (Sl.nil _ _ V.None' _ _ (Nat.zero_le _)) (by omega) (by omega) (by omega) (by omega) (by first | assumption | omega | simp)) rfl rfl rfl ?_
  rintro _ w55 ⟨k48, M49, D50, rfl, ⟨h51l, h51u⟩, F52, h53, h54, G56⟩
  have z57 := V.Fr.size G56
  refine V.ru 5 ?_
  refine V.nt ?_
  refine V.seq ?_
  refine V.seq ?_
  have hr58 : (⟨(0 : Int), (1 : Int), (0 : Int), (-1), 0, -1, curp, curp.base, ([]), false, false, false, 0, 0, 0, 0, 0, 0, [], 0⟩ : NodeV) = nV0 curp := rfl
  rw [hr58] at F52
  clear hr58
  have hM0 : ∀ j, M49 j → w.heap.size ≤ j := by intro j h; grind
  have hlm0 := F52.lm
  have hld0 := F52.ld
  have hv0 := vi_0 curp
  have hs0 := sz_0 (L := curp) hclp hi2p hcbp
  refine V.region ?_
  refine V.ru 6 ?_
  refine V.nt ?_
  refine V.condN rfl rfl ?_
  refine V.skip ?_
  refine V.tN ?_
  refine V.sr ?_
  refine V.mkStruct T_ok zero38 rfl rfl rfl rfl rfl ?_
  refine V.box rfl rfl rfl rfl ?_
  rintro k59 w61 s63 s64 G62 Fk60
  have z65 := V.Fr.size G62
  try simp only [V.cellsL, V.spliceL] at Fk60
  refine V.ru 1 ?_
  refine V.nt ?_
  refine V.seq ?_
  clear F5
  refine V.region ?_
  refine V.ru 1 ?_
  refine V.nt ?_
  refine V.seq ?_
  refine V.sr ?_
  refine V.ru 1 ?_
  refine V.nt ?_
  refine V.block ?_
  replace F_sc := F_sc.gr (G56.trans G62)
  have hl63s := F_sc.len63
  replace F_own := F_own.gr (G56.trans G62)
  replace F52 := F52.gr G62
  replace HG := HG.grow (G56.trans G62)
  refine V.loopM (fun m e v67 => Fr [] w v67 ∧ w61.heap.size ≤ v67.heap.size ∧ Sl V.Cod.ent v67 D_own a_own c_own own ∧ Sl V.Cod.act v67 D_sc a_sc c_sc sc ∧ ∃ (d : NodeV) (s : Int × Int) (kn : Nat) (Mn Dn : Nat → Prop) (i2 : Nat) , m = sc.length - i2 ∧ i2 ≤ sc.length ∧ i2 ≤ 120 ∧ VI d s ∧ SzV d i2 ∧ (∀ j, Mn j → w.heap.size ≤ j ∧ j ≠ k59) ∧ (∀ j, Dn j → j ≠ k59) ∧ Nd v67 kn Mn Dn d ∧ Cells v67 k59 [.int .i64 s.1, .int .i64 s.2] 38 ∧ e 1 = .slice a_sc sc.length c_sc ∧ e 8 = .pointer (some ⟨kn, 0, none⟩) ∧ e 10 = .pointer (some ⟨k59, 0, none⟩) ∧ e 11 = .int .i64 d.te ∧ e 12 = .int .i64 (i2 : Int)) ?_ ?_
  ·
   exact ⟨_, HG, (by omega), F_own, F_sc, (nV0 curp), ((-1, -1)), (k48), (M49), (D50), (0), rfl, (Nat.zero_le _), (Nat.zero_le _), (hv0), (hs0), ((by intro j h; grind)), ((by intro j h; grind)), F52, Fk60, rfl, rfl, rfl, rfl, rfl⟩
  clear HG F_own F_sc F52 Fk60
  rintro _ e v67 ⟨HG, z68, F_own, F_sc, d, s, kn, Mn, Dn, i2, rfl, hi, hi9, hI, hS, hM, hD, F52, Fk60, he1_1, he1_8, he1_10, he1_11, he1_12⟩
  refine V.knownC (t := 1) he1_1 ?_
  refine V.knownC (t := 8) he1_8 ?_
  refine V.knownC (t := 10) he1_10 ?_
  refine V.knownC (t := 11) he1_11 ?_
  refine V.knownC (t := 12) he1_12 ?_
  refine V.seq ?_
  refine V.seq ?_
  have hnlm := F52.lm
  have hnld := F52.ld
  have hnMD := F52.dj
  have hNok := F52.ok.te
  have hNda := F52.ok.da
  refine V.region ?_
  refine V.ru 5 ?_
  refine V.andG T_ok 2 4 73 rfl rfl rfl rfl rfl rfl rfl rfl ?_
  refine V.nt ?_
  refine V.condT rfl (fun h15 => ?_) (fun h15 => ?_)
  ·
   try replace h15 := V.dec h15
   try simp only [V.mk] at h15
   refine V.skip ?_
   refine V.tN ?_
   refine V.seq ?_
   refine V.block ?_
   refine V.sr ?_
   refine V.ru 2 ?_
   refine V.elem T_ok F_sc rfl rfl sz59 rfl rfl rfl rfl V.lenA V.lenA ?_
   rintro b69 o70 cs71 hx72 hb73 hR86 hA74
   obtain ⟨x75, hx75⟩ : ∃ z', sc[((i2 : Int)).toNat] = z' := ⟨_, rfl⟩
   rw [hx75] at hR86
   obtain ⟨a77, c78, a80, c81, a83, c84, q0_76, q1_76, q2_76, q3_76, q4_76, q5_76, q6_76, q7_76, q8_76, q9_76, q10_76, q11_76, q12_76, q13_76, q14_76, q15_76, q16_76, q17_76, q18_76, q19_76, q20_76, q21_76, q22a_76, q22n_76, q22c_76, q23_76, q24_76, q25_76, q26_76, q27a_76, q27n_76, q27c_76, q28_76, q29_76, q30_76, q31_76, q32_76, q33_76, q34_76, q35_76, q36_76, q37_76, q38_76, q39_76, q40_76, q41a_76, q41n_76, q41c_76, rfl, F79, F82, F85⟩ := hR86
   try simp only [Int.toNat_natCast] at hx75 hx72
   refine V.loadA T_ok (o0 := o70) (off := 0) hA74 rfl rfl rfl rfl rfl ?_
   refine V.alloc zero59 rfl rfl rfl ?_
   rintro k87 w89 s91 s92 G90 Fk88
   have z93 := V.Fr.size G90
   try simp only [V.cellsL, V.spliceL] at Fk88
   refine V.storeO Fk88 rfl rfl rfl rfl sz59 rfl rfl rfl rfl ?_
   rintro w94 G95 z97 Fs96
   clear Fk88
   have z98 := V.Fr.size G95
   have Fk88 := Fs96; clear Fs96
   simp only [V.spliceL, V.cellsL] at Fk88
   refine V.nt ?_
   refine V.sr ?_
   refine V.loadO T_ok Fk88 rfl rfl rfl rfl rfl ?_
   replace F79 := F79.gr G90
   replace F79 := F79.mb G95 hD_sc
   replace F82 := F82.gr G90
   replace F82 := F82.mb G95 hD_sc
   replace F85 := F85.gr G90
   replace F85 := F85.mb G95 hD_sc
   refine V.call (fits_spec (x := x75) F79 F82 F85) rfl rfl rfl ?_
   rintro _ w99 ⟨rfl, G100⟩
   have z101 := V.Fr.size G100
   refine V.ru 1 ?_
   refine V.nt ?_
   refine V.seq ?_
   refine V.sr ?_
   refine V.ru 2 ?_
   refine V.nt ?_
   refine V.condT rfl (fun h19 => ?_) (fun h19 => ?_)
   ·
    try replace h19 := V.dec h19
    try simp only [V.mk] at h19
    
    refine V.exit ?_
    refine V.tX ?_
    refine V.bE ?_
    refine V.tN ?_
    refine V.region ?_
    refine V.ru 1 ?_
    refine V.addN rfl rfl rfl rfl rfl V.lenA V.lenA ?_
    refine V.ru 1 ?_
    refine V.nt ?_
    replace F_own := F_own.gr G90
    replace F_own := F_own.mb G95 hD_own
    replace F_own := F_own.gr G100
    replace F_sc := F_sc.gr G90
    replace F_sc := F_sc.mb G95 hD_sc
    replace F_sc := F_sc.gr G100
    replace F52 := F52.gr G90
    replace F52 := F52.mv1 G95 (by (try dsimp only [V.In]); first | omega | grind)
    replace F52 := F52.gr G100
    replace Fk60 := Fk60.gr G90
    replace Fk60 := Fk60.ma G95
    replace Fk60 := Fk60.gr G100
    replace HG := HG.grow G90
    replace HG := HG.n1 G95
    replace HG := HG.grow G100
    exact ⟨_, (by omega), HG, (by omega), F_own, F_sc, (d), (s), (kn), (Mn), (Dn), (i2 + 1), rfl, (by omega), (by omega), (hI), (sz_up hS (by omega)), (hM), (hD), F52, Fk60, rfl, rfl, rfl, rfl, rfl⟩
   ·
    try replace h19 := V.dec h19
    try simp only [V.mk] at h19
    
    refine V.skip ?_
    refine V.tN ?_
    refine V.seq ?_
    have hfit : fitsV x75 = true := by first | exact h19 | simpa using h19 | grind
    refine V.region ?_
    refine V.ru 1 ?_
    replace F52 := F52.gr G90
    replace F52 := F52.mv1 G95 (by (try dsimp only [V.In]); first | omega | grind)
    replace F52 := F52.gr G100
    refine V.call (rlog_spec F52) rfl rfl rfl ?_
    rintro _ w109 ⟨k102, g103, B104, rfl, ⟨h105l, h105u⟩, F106, h107, h108, G110⟩
    have z111 := V.Fr.size G110
    refine V.ru 1 ?_
    refine V.nt ?_
    refine V.seq ?_
    refine V.seq ?_
    obtain ⟨hfl1, hfl2, hfl3⟩ := fits_lens hfit
    have FW_ := F106.weak
    have hgW := FW_.gl
    have hnc : d.nc ≤ 2000 := by have := hS.nc; omega
    have hll : d.L.l.length ≤ 2000 := by have := hS.ll; omega
    have hlb := hS.lb
    have hod : d.out.length = 0 := by rw [hI.out]; rfl
    have hvo := hI.vo
    refine V.region ?_
    refine V.ru 1 ?_
    replace Fk88 := Fk88.gr (G100.trans G110)
    refine V.loadO T_ok Fk88 rfl rfl rfl rfl rfl ?_
    refine V.nt ?_
    refine V.block ?_
    refine V.sr ?_
    refine V.ru 2 ?_
    refine V.nt ?_
    refine V.condT rfl (fun h22 => ?_) (fun h22 => ?_)
    ·
     try replace h22 := V.dec h22
     try simp only [V.mk] at h22
     
     clear F106
     refine V.region ?_
     refine V.ru 2 ?_
     refine V.loadO T_ok Fk88 rfl rfl rfl rfl rfl ?_
     replace F52 := F52.gr G110
     replace F79 := F79.gr (G100.trans G110)
     replace F82 := F82.gr (G100.trans G110)
     refine V.call (step_spec (mg := x75.m) F52 F79 (fun k hk => by have := hD_sc k hk; omega) F82 (fun k hk => by have := hD_sc k hk; omega) (by intro j h; first | exact h.elim | (have a1 := hM j; (try dsimp only [V.In] at h); grind)) (by intro j h; first | exact h.elim | (have a1 := hM j; (try dsimp only [V.In] at h); grind)) (by first | assumption | omega) (by first | assumption | omega) (by first | assumption | omega) (by first | assumption | omega) (by first | assumption | omega) (by first | assumption | omega)) rfl rfl rfl ?_
     rintro _ w117 ⟨M112, D113, rfl, F114, h115, h116, G118⟩
     have z119 := V.FrE.size G118
     refine V.nil ?_
     refine V.bN ?_
     refine V.tN ?_
     refine V.seq ?_
     have hr120 : stepV d x75.m = actV d x75 := (by unfold actV; rw [if_pos h22])
     rw [hr120] at F114
     clear hr120
     obtain ⟨⟨⟨s2, hhe, hI2⟩, hte2⟩, hS2⟩ := act_law (a := x75) hI hS hNok.1 hfl1
     have hA1 : ∀ j, M112 j → w.heap.size ≤ j ∧ j ≠ k59 ∧ j ≠ k87 ∧ j ≠ k102 ∧ j ≠ g103 := by intro j h; grind
     have hA2 : ∀ j, D113 j → j ≠ k59 := by intro j h; grind
     have hA3 := F114.lm
     have hA4 := F114.ld
     refine V.region ?_
     refine V.ru 1 ?_
     refine V.call (rhard_spec F114) rfl rfl rfl ?_
     rintro _ w121 ⟨rfl, G122⟩
     have z123 := V.Fr.size G122
     refine V.ru 5 ?_
     refine V.nt ?_
     refine V.seq ?_
     refine V.sr ?_
     refine V.ru 4 ?_
     refine V.splitF (j := 3) (t := 132) rfl rfl (by (exact decide_eq_false (Int.not_lt.2 hte2))) ?_
     refine V.ru 3 ?_
     refine V.nt ?_
     refine V.condN rfl rfl ?_
     refine V.skip ?_
     refine V.tN ?_
     refine V.sr ?_
     refine V.ru 2 ?_
     refine V.nt ?_
     refine V.seq ?_
     replace F_own := F_own.gr G90
     replace F_own := F_own.mb G95 hD_own
     replace F_own := F_own.gr (G100.trans G110)
     replace F_own := F_own.mvE G118 (by intro j h hd; (try dsimp only [V.In] at h hd ⊢); first | omega | grind)
     replace F_own := F_own.gr G122
     replace F_sc := F_sc.gr G90
     replace F_sc := F_sc.mb G95 hD_sc
     replace F_sc := F_sc.gr (G100.trans G110)
     replace F_sc := F_sc.mvE G118 (by intro j h hd; (try dsimp only [V.In] at h hd ⊢); first | omega | grind)
     replace F_sc := F_sc.gr G122
     replace Fk60 := Fk60.gr G90
     replace Fk60 := Fk60.ma G95
     replace Fk60 := Fk60.gr (G100.trans G110)
     replace Fk60 := Fk60.mvE G118 (by (try dsimp only [V.In]); first | omega | grind)
     replace Fk60 := Fk60.gr G122
     replace F79 := F79.mvE G118 (by intro j h hd; (try dsimp only [V.In] at h hd ⊢); first | omega | grind)
     replace F79 := F79.gr G122
     replace F82 := F82.mvE G118 (by intro j h hd; (try dsimp only [V.In] at h hd ⊢); first | omega | grind)
     replace F82 := F82.gr G122
     replace F85 := F85.gr (G100.trans G110)
     replace F85 := F85.mvE G118 (by intro j h hd; (try dsimp only [V.In] at h hd ⊢); first | omega | grind)
     replace F85 := F85.gr G122
     replace Fk88 := Fk88.mvE G118 (by (try dsimp only [V.In]); first | omega | grind)
     replace Fk88 := Fk88.gr G122
     replace FW_ := FW_.mvE G118 (by intro j h hd; (try dsimp only [V.In] at h hd ⊢); first | omega | grind)
     replace FW_ := FW_.gr G122
     replace F114 := F114.gr G122
     replace HG := HG.grow G90
     replace HG := HG.n1 G95
     replace HG := HG.grow (G100.trans G110)
     replace HG := HG.stepE G118 (by intro i h; (try dsimp only [V.In] at h ⊢); first | omega | grind)
     replace HG := HG.grow G122
     refine V.drawMT 12 (fun w_ => V.FrE (fun j => M112 j ∨ j = k59) w121 w_) (fun i => Nat.beq i 2 || Nat.beq i 10 || Nat.beq i 11) (fun _ g_ => V.FrE.ofGr g_) mixed (by kernel_rfl) (by kernel_rfl) ?_
     refine V.mrun T_ok 2 rfl rfl ?_
     refine V.mcall (R := fun w1_ v_ w2_ => ∃ (ra_ : Option Addr) (rc_ : Nat) (rM_ rR_ : Nat → Prop), v_ = .slice ra_ (actV d x75).out.length rc_ ∧ Sl V.Cod.rmsg w2_ rR_ ra_ rc_ (actV d x75).out ∧ Nd w2_ kn rM_ D113 (outV (actV d x75)) ∧ (∀ j, rM_ j → M112 j) ∧ (∀ j, rR_ j → (D113 j ∨ M112 j) ∧ ¬ rM_ j) ∧ V.FrE M112 w1_ w2_) rfl (fun w' g_ h_ => rout_spec (F114.gr h_)) (by rintro wa va wb ca ha ⟨_, _, _, _, _, _, _, _, _, G_⟩; exact (ca.trans G_).mono (fun i h _ => h.elim id .inl)) rfl rfl rfl ?_
     rintro _ _ _ _ _ ⟨a124, c125, _, _, rfl, -, -, -, -, -⟩
     refine V.mrun T_ok 3 rfl rfl ?_
     refine V.mloadO T_ok (fun w' g_ => V.Cells.mvE Fk88 g_ (by (try dsimp only); first | omega | grind)) rfl rfl rfl rfl rfl rfl ?_
     refine V.mrun T_ok 2 rfl rfl ?_
     refine V.mloadO T_ok (fun w' g_ => V.Cells.mvE Fk88 g_ (by (try dsimp only); first | omega | grind)) rfl rfl rfl rfl rfl rfl ?_
     refine V.mcall (R := fun w1_ v_ w2_ => v_ = .bool (behV d.L x75.m.ix x75.m.lt) ∧ Gr w1_ w2_) rfl (fun w' g_ h_ => by obtain ⟨w1_, g1_, g0_, ra_, rc_, rM_, rR_, e_, S_, N_, hm_, hr_, G_⟩ := h_; exact behindw_spec ((FW_.gr g0_).mvE G_ (by intro j hj e; have := hA1 j hj; omega))) (by rintro wa va wb ca ha ⟨_, G_⟩; exact (ca.trans (V.FrE.ofGr (X := fun _ => False) G_)).mono (fun i h _ => h.elim id False.elim)) rfl rfl rfl ?_
     rintro _ _ _ _ _ ⟨rfl, -⟩
     refine V.mcall (R := fun w1_ v_ w2_ => v_ = .bool true ∧ Cells w2_ k59 [.int .i64 s2.1, .int .i64 s2.2] 38 ∧ Fr [k59] w1_ w2_) rfl (fun w' g_ h_ => by obtain ⟨w2_, g2_, ⟨w1_, g1_, g0_, ra_, rc_, rM_, rR_, e_, S_, N_, hm_, hr_, G_⟩, -, H_⟩ := h_; cases e_; have z1_ := V.Fr.size g0_; have z2_ := V.FrE.size G_; have z3_ := V.Fr.size H_; exact hears_spec (((Fk60.gr g0_).mvE G_ (by intro e; have := hA1 _ e; omega)).gr H_) (S_.gr H_) (by intro j hj; rcases (hr_ j hj).1 with e | e; (have := hA4 j e; omega); (have := hA3 j e; omega)) hhe (by intro e; rcases (hr_ _ e).1 with e | e; exact hA2 _ e rfl; exact (hA1 _ e).2.1 rfl)) (by rintro wa va wb ca ha ⟨_, _, G_⟩; exact (ca.trans (V.FrE.of1 (X := fun j => j = k59) G_ rfl)).mono (fun i h _ => h.elim id .inr)) rfl rfl rfl ?_
     rintro _ _ _ _ _ ⟨rfl, -, -⟩
     refine V.mnil ?_
     rintro w129 - ⟨w128, -, ⟨w127, -, ⟨w126, -, g0_, ra_, rc_, M130, rR_, e_, S_, N_, hm_, hr_, G1_⟩, -, G2_⟩, -, V_, G3_⟩
     clear e_ S_
     have z131 := V.Fr.size g0_
     clear F114
     have z132 := V.FrE.size G1_
     have z133 := V.Fr.size G2_
     clear Fk60
     have z134 := V.Fr.size G3_
     refine V.ru 1 ?_
     refine V.nt ?_
     refine V.sr ?_
     refine V.ru 2 ?_
     refine V.nt ?_
     refine V.condN rfl rfl ?_
     refine V.skip ?_
     refine V.bN ?_
     refine V.tN ?_
     refine V.region ?_
     refine V.ru 1 ?_
     refine V.addN rfl rfl rfl rfl rfl V.lenA V.lenA ?_
     refine V.ru 1 ?_
     refine V.nt ?_
     replace F_own := F_own.gr g0_
     replace F_own := F_own.mvE G1_ (by intro j h hd; (try dsimp only [V.In] at h hd ⊢); first | omega | grind)
     replace F_own := F_own.gr G2_
     replace F_own := F_own.mb G3_ hD_own
     replace F_sc := F_sc.gr g0_
     replace F_sc := F_sc.mvE G1_ (by intro j h hd; (try dsimp only [V.In] at h hd ⊢); first | omega | grind)
     replace F_sc := F_sc.gr G2_
     replace F_sc := F_sc.mb G3_ hD_sc
     replace N_ := N_.gr G2_
     replace N_ := N_.mv1 G3_ (by (try dsimp only [V.In]); first | omega | grind)
     replace HG := HG.grow g0_
     replace HG := HG.stepE G1_ (by intro i h; (try dsimp only [V.In] at h ⊢); first | omega | grind)
     replace HG := HG.grow G2_
     replace HG := HG.n1 G3_
     exact ⟨_, (by omega), HG, (by omega), F_own, F_sc, (outV (actV d x75)), (s2), (kn), (M130), (D113), (i2 + 1), rfl, (by omega), (by omega), (hI2), (hS2), ((by intro j h; grind)), ((by intro j h; grind)), N_, V_, rfl, rfl, rfl, rfl, rfl⟩
    ·
     try replace h22 := V.dec h22
     try simp only [V.mk] at h22
     
     refine V.sr ?_
     refine V.ru 2 ?_
     refine V.nt ?_
     refine V.condT rfl (fun h24 => ?_) (fun h24 => ?_)
     ·
      try replace h24 := V.dec h24
      try simp only [V.mk] at h24
      
      clear F106
      refine V.region ?_
      refine V.ru 1 ?_
      replace F52 := F52.gr G110
      refine V.call (elect_spec F52 (by first | assumption | omega)) rfl rfl rfl ?_
      rintro _ w140 ⟨M135, D136, rfl, F137, h138, h139, G141⟩
      have z142 := V.FrE.size G141
      refine V.nil ?_
      refine V.bN ?_
      refine V.tN ?_
      refine V.seq ?_
      have hr143 : electV d = actV d x75 := (by unfold actV; rw [if_neg h22, if_pos h24])
      rw [hr143] at F137
      clear hr143
      obtain ⟨⟨⟨s2, hhe, hI2⟩, hte2⟩, hS2⟩ := act_law (a := x75) hI hS hNok.1 hfl1
      have hA1 : ∀ j, M135 j → w.heap.size ≤ j ∧ j ≠ k59 ∧ j ≠ k87 ∧ j ≠ k102 ∧ j ≠ g103 := by intro j h; grind
      have hA2 : ∀ j, D136 j → j ≠ k59 := by intro j h; grind
      have hA3 := F137.lm
      have hA4 := F137.ld
      refine V.region ?_
      refine V.ru 1 ?_
      refine V.call (rhard_spec F137) rfl rfl rfl ?_
      rintro _ w144 ⟨rfl, G145⟩
      have z146 := V.Fr.size G145
      refine V.ru 5 ?_
      refine V.nt ?_
      refine V.seq ?_
      refine V.sr ?_
      refine V.ru 4 ?_
      refine V.splitF (j := 3) (t := 132) rfl rfl (by (exact decide_eq_false (Int.not_lt.2 hte2))) ?_
      refine V.ru 3 ?_
      refine V.nt ?_
      refine V.condN rfl rfl ?_
      refine V.skip ?_
      refine V.tN ?_
      refine V.sr ?_
      refine V.ru 2 ?_
      refine V.nt ?_
      refine V.seq ?_
      replace F_own := F_own.gr G90
      replace F_own := F_own.mb G95 hD_own
      replace F_own := F_own.gr (G100.trans G110)
      replace F_own := F_own.mvE G141 (by intro j h hd; (try dsimp only [V.In] at h hd ⊢); first | omega | grind)
      replace F_own := F_own.gr G145
      replace F_sc := F_sc.gr G90
      replace F_sc := F_sc.mb G95 hD_sc
      replace F_sc := F_sc.gr (G100.trans G110)
      replace F_sc := F_sc.mvE G141 (by intro j h hd; (try dsimp only [V.In] at h hd ⊢); first | omega | grind)
      replace F_sc := F_sc.gr G145
      replace Fk60 := Fk60.gr G90
      replace Fk60 := Fk60.ma G95
      replace Fk60 := Fk60.gr (G100.trans G110)
      replace Fk60 := Fk60.mvE G141 (by (try dsimp only [V.In]); first | omega | grind)
      replace Fk60 := Fk60.gr G145
      replace F79 := F79.gr (G100.trans G110)
      replace F79 := F79.mvE G141 (by intro j h hd; (try dsimp only [V.In] at h hd ⊢); first | omega | grind)
      replace F79 := F79.gr G145
      replace F82 := F82.gr (G100.trans G110)
      replace F82 := F82.mvE G141 (by intro j h hd; (try dsimp only [V.In] at h hd ⊢); first | omega | grind)
      replace F82 := F82.gr G145
      replace F85 := F85.gr (G100.trans G110)
      replace F85 := F85.mvE G141 (by intro j h hd; (try dsimp only [V.In] at h hd ⊢); first | omega | grind)
      replace F85 := F85.gr G145
      replace Fk88 := Fk88.mvE G141 (by (try dsimp only [V.In]); first | omega | grind)
      replace Fk88 := Fk88.gr G145
      replace FW_ := FW_.mvE G141 (by intro j h hd; (try dsimp only [V.In] at h hd ⊢); first | omega | grind)
      replace FW_ := FW_.gr G145
      replace F137 := F137.gr G145
      replace HG := HG.grow G90
      replace HG := HG.n1 G95
      replace HG := HG.grow (G100.trans G110)
      replace HG := HG.stepE G141 (by intro i h; (try dsimp only [V.In] at h ⊢); first | omega | grind)
      replace HG := HG.grow G145
      refine V.drawMT 12 (fun w_ => V.FrE (fun j => M135 j ∨ j = k59) w144 w_) (fun i => Nat.beq i 2 || Nat.beq i 10 || Nat.beq i 11) (fun _ g_ => V.FrE.ofGr g_) mixed (by kernel_rfl) (by kernel_rfl) ?_
      refine V.mrun T_ok 2 rfl rfl ?_
      refine V.mcall (R := fun w1_ v_ w2_ => ∃ (ra_ : Option Addr) (rc_ : Nat) (rM_ rR_ : Nat → Prop), v_ = .slice ra_ (actV d x75).out.length rc_ ∧ Sl V.Cod.rmsg w2_ rR_ ra_ rc_ (actV d x75).out ∧ Nd w2_ kn rM_ D136 (outV (actV d x75)) ∧ (∀ j, rM_ j → M135 j) ∧ (∀ j, rR_ j → (D136 j ∨ M135 j) ∧ ¬ rM_ j) ∧ V.FrE M135 w1_ w2_) rfl (fun w' g_ h_ => rout_spec (F137.gr h_)) (by rintro wa va wb ca ha ⟨_, _, _, _, _, _, _, _, _, G_⟩; exact (ca.trans G_).mono (fun i h _ => h.elim id .inl)) rfl rfl rfl ?_
      rintro _ _ _ _ _ ⟨a147, c148, _, _, rfl, -, -, -, -, -⟩
      refine V.mrun T_ok 3 rfl rfl ?_
      refine V.mloadO T_ok (fun w' g_ => V.Cells.mvE Fk88 g_ (by (try dsimp only); first | omega | grind)) rfl rfl rfl rfl rfl rfl ?_
      refine V.mrun T_ok 2 rfl rfl ?_
      refine V.mloadO T_ok (fun w' g_ => V.Cells.mvE Fk88 g_ (by (try dsimp only); first | omega | grind)) rfl rfl rfl rfl rfl rfl ?_
      refine V.mcall (R := fun w1_ v_ w2_ => v_ = .bool (behV d.L x75.m.ix x75.m.lt) ∧ Gr w1_ w2_) rfl (fun w' g_ h_ => by obtain ⟨w1_, g1_, g0_, ra_, rc_, rM_, rR_, e_, S_, N_, hm_, hr_, G_⟩ := h_; exact behindw_spec ((FW_.gr g0_).mvE G_ (by intro j hj e; have := hA1 j hj; omega))) (by rintro wa va wb ca ha ⟨_, G_⟩; exact (ca.trans (V.FrE.ofGr (X := fun _ => False) G_)).mono (fun i h _ => h.elim id False.elim)) rfl rfl rfl ?_
      rintro _ _ _ _ _ ⟨rfl, -⟩
      refine V.mcall (R := fun w1_ v_ w2_ => v_ = .bool true ∧ Cells w2_ k59 [.int .i64 s2.1, .int .i64 s2.2] 38 ∧ Fr [k59] w1_ w2_) rfl (fun w' g_ h_ => by obtain ⟨w2_, g2_, ⟨w1_, g1_, g0_, ra_, rc_, rM_, rR_, e_, S_, N_, hm_, hr_, G_⟩, -, H_⟩ := h_; cases e_; have z1_ := V.Fr.size g0_; have z2_ := V.FrE.size G_; have z3_ := V.Fr.size H_; exact hears_spec (((Fk60.gr g0_).mvE G_ (by intro e; have := hA1 _ e; omega)).gr H_) (S_.gr H_) (by intro j hj; rcases (hr_ j hj).1 with e | e; (have := hA4 j e; omega); (have := hA3 j e; omega)) hhe (by intro e; rcases (hr_ _ e).1 with e | e; exact hA2 _ e rfl; exact (hA1 _ e).2.1 rfl)) (by rintro wa va wb ca ha ⟨_, _, G_⟩; exact (ca.trans (V.FrE.of1 (X := fun j => j = k59) G_ rfl)).mono (fun i h _ => h.elim id .inr)) rfl rfl rfl ?_
      rintro _ _ _ _ _ ⟨rfl, -, -⟩
      refine V.mnil ?_
      rintro w152 - ⟨w151, -, ⟨w150, -, ⟨w149, -, g0_, ra_, rc_, M153, rR_, e_, S_, N_, hm_, hr_, G1_⟩, -, G2_⟩, -, V_, G3_⟩
      clear e_ S_
      have z154 := V.Fr.size g0_
      clear F137
      have z155 := V.FrE.size G1_
      have z156 := V.Fr.size G2_
      clear Fk60
      have z157 := V.Fr.size G3_
      refine V.ru 1 ?_
      refine V.nt ?_
      refine V.sr ?_
      refine V.ru 2 ?_
      refine V.nt ?_
      refine V.condN rfl rfl ?_
      refine V.skip ?_
      refine V.bN ?_
      refine V.tN ?_
      refine V.region ?_
      refine V.ru 1 ?_
      refine V.addN rfl rfl rfl rfl rfl V.lenA V.lenA ?_
      refine V.ru 1 ?_
      refine V.nt ?_
      replace F_own := F_own.gr g0_
      replace F_own := F_own.mvE G1_ (by intro j h hd; (try dsimp only [V.In] at h hd ⊢); first | omega | grind)
      replace F_own := F_own.gr G2_
      replace F_own := F_own.mb G3_ hD_own
      replace F_sc := F_sc.gr g0_
      replace F_sc := F_sc.mvE G1_ (by intro j h hd; (try dsimp only [V.In] at h hd ⊢); first | omega | grind)
      replace F_sc := F_sc.gr G2_
      replace F_sc := F_sc.mb G3_ hD_sc
      replace N_ := N_.gr G2_
      replace N_ := N_.mv1 G3_ (by (try dsimp only [V.In]); first | omega | grind)
      replace HG := HG.grow g0_
      replace HG := HG.stepE G1_ (by intro i h; (try dsimp only [V.In] at h ⊢); first | omega | grind)
      replace HG := HG.grow G2_
      replace HG := HG.n1 G3_
      exact ⟨_, (by omega), HG, (by omega), F_own, F_sc, (outV (actV d x75)), (s2), (kn), (M153), (D136), (i2 + 1), rfl, (by omega), (by omega), (hI2), (hS2), ((by intro j h; grind)), ((by intro j h; grind)), N_, V_, rfl, rfl, rfl, rfl, rfl⟩
     ·
      try replace h24 := V.dec h24
      try simp only [V.mk] at h24
      
      refine V.sr ?_
      refine V.ru 2 ?_
      refine V.nt ?_
      refine V.condT rfl (fun h26 => ?_) (fun h26 => ?_)
      ·
       try replace h26 := V.dec h26
       try simp only [V.mk] at h26
       
       refine V.sr ?_
       refine V.ru 1 ?_
       replace F52 := F52.gr G110
       refine V.call (rhard_spec F52) rfl rfl rfl ?_
       rintro _ w158 ⟨rfl, G159⟩
       have z160 := V.Fr.size G159
       refine V.ru 5 ?_
       refine V.nt ?_
       refine V.sr ?_
       refine V.ru 4 ?_
       replace F52 := F52.gr G159
       refine V.call (rdata_spec F52) rfl rfl rfl ?_
       rintro _ w164 ⟨a161, c162, rfl, F163, G165⟩
       have z166 := V.Fr.size G165
       replace F106 := F106.gr (G159.trans G165)
       refine V.call (rnew_spec (id := 0) (rg := 1) (te := d.te) (vo := d.vo) F106 F163.sl (by omega) (by omega) (by omega) (by omega) (by first | assumption | omega | simp)) rfl rfl rfl ?_
       rintro _ w174 ⟨k167, M168, D169, rfl, ⟨h170l, h170u⟩, F171, h172, h173, G175⟩
       have z176 := V.Fr.size G175
       refine V.ru 5 ?_
       refine V.nt ?_
       refine V.seq ?_
       refine V.sr ?_
       refine V.ru 6 ?_
       refine V.nt ?_
       refine V.condN rfl rfl ?_
       refine V.skip ?_
       refine V.tN ?_
       refine V.region ?_
       refine V.ru 2 ?_
       refine V.nil ?_
       refine V.bN ?_
       refine V.tN ?_
       refine V.seq ?_
       clear F106
       have hr177 : (⟨(0 : Int), (1 : Int), d.te, d.vo, 0, -1, d.L, d.L.base, d.da, false, false, false, 0, 0, 0, 0, 0, 0, [], 0⟩ : NodeV) = actV d x75 := (by unfold actV; rw [if_neg h22, if_neg h24, if_pos h26]; rfl)
       rw [hr177] at F171
       clear hr177
       obtain ⟨⟨⟨s2, hhe, hI2⟩, hte2⟩, hS2⟩ := act_law (a := x75) hI hS hNok.1 hfl1
       have hA1 : ∀ j, M168 j → w.heap.size ≤ j ∧ j ≠ k59 ∧ j ≠ k87 ∧ j ≠ k102 ∧ j ≠ g103 := by intro j h; grind
       have hA2 : ∀ j, D169 j → j ≠ k59 := by intro j h; grind
       have hA3 := F171.lm
       have hA4 := F171.ld
       refine V.region ?_
       refine V.ru 1 ?_
       refine V.call (rhard_spec F171) rfl rfl rfl ?_
       rintro _ w178 ⟨rfl, G179⟩
       have z180 := V.Fr.size G179
       refine V.ru 5 ?_
       refine V.nt ?_
       refine V.seq ?_
       refine V.sr ?_
       refine V.ru 4 ?_
       refine V.splitF (j := 3) (t := 132) rfl rfl (by (exact decide_eq_false (Int.not_lt.2 hte2))) ?_
       refine V.ru 3 ?_
       refine V.nt ?_
       refine V.condN rfl rfl ?_
       refine V.skip ?_
       refine V.tN ?_
       refine V.sr ?_
       refine V.ru 2 ?_
       refine V.nt ?_
       refine V.seq ?_
       replace F_own := F_own.gr G90
       replace F_own := F_own.mb G95 hD_own
       replace F_own := F_own.gr (G100.trans (G110.trans (G159.trans (G165.trans (G175.trans G179)))))
       replace F_sc := F_sc.gr G90
       replace F_sc := F_sc.mb G95 hD_sc
       replace F_sc := F_sc.gr (G100.trans (G110.trans (G159.trans (G165.trans (G175.trans G179)))))
       replace F52 := F52.gr (G165.trans (G175.trans G179))
       replace Fk60 := Fk60.gr G90
       replace Fk60 := Fk60.ma G95
       replace Fk60 := Fk60.gr (G100.trans (G110.trans (G159.trans (G165.trans (G175.trans G179)))))
       replace F79 := F79.gr (G100.trans (G110.trans (G159.trans (G165.trans (G175.trans G179)))))
       replace F82 := F82.gr (G100.trans (G110.trans (G159.trans (G165.trans (G175.trans G179)))))
       replace F85 := F85.gr (G100.trans (G110.trans (G159.trans (G165.trans (G175.trans G179)))))
       replace Fk88 := Fk88.gr (G159.trans (G165.trans (G175.trans G179)))
       replace FW_ := FW_.gr (G159.trans (G165.trans (G175.trans G179)))
       replace F163 := F163.gr (G175.trans G179)
       replace F171 := F171.gr G179
       replace HG := HG.grow G90
       replace HG := HG.n1 G95
       replace HG := HG.grow (G100.trans (G110.trans (G159.trans (G165.trans (G175.trans G179)))))
       refine V.drawMT 12 (fun w_ => V.FrE (fun j => M168 j ∨ j = k59) w178 w_) (fun i => Nat.beq i 2 || Nat.beq i 10 || Nat.beq i 11) (fun _ g_ => V.FrE.ofGr g_) mixed (by kernel_rfl) (by kernel_rfl) ?_
       refine V.mrun T_ok 2 rfl rfl ?_
       refine V.mcall (R := fun w1_ v_ w2_ => ∃ (ra_ : Option Addr) (rc_ : Nat) (rM_ rR_ : Nat → Prop), v_ = .slice ra_ (actV d x75).out.length rc_ ∧ Sl V.Cod.rmsg w2_ rR_ ra_ rc_ (actV d x75).out ∧ Nd w2_ k167 rM_ D169 (outV (actV d x75)) ∧ (∀ j, rM_ j → M168 j) ∧ (∀ j, rR_ j → (D169 j ∨ M168 j) ∧ ¬ rM_ j) ∧ V.FrE M168 w1_ w2_) rfl (fun w' g_ h_ => rout_spec (F171.gr h_)) (by rintro wa va wb ca ha ⟨_, _, _, _, _, _, _, _, _, G_⟩; exact (ca.trans G_).mono (fun i h _ => h.elim id .inl)) rfl rfl rfl ?_
       rintro _ _ _ _ _ ⟨a181, c182, _, _, rfl, -, -, -, -, -⟩
       refine V.mrun T_ok 3 rfl rfl ?_
       refine V.mloadO T_ok (fun w' g_ => V.Cells.mvE Fk88 g_ (by (try dsimp only); first | omega | grind)) rfl rfl rfl rfl rfl rfl ?_
       refine V.mrun T_ok 2 rfl rfl ?_
       refine V.mloadO T_ok (fun w' g_ => V.Cells.mvE Fk88 g_ (by (try dsimp only); first | omega | grind)) rfl rfl rfl rfl rfl rfl ?_
       refine V.mcall (R := fun w1_ v_ w2_ => v_ = .bool (behV d.L x75.m.ix x75.m.lt) ∧ Gr w1_ w2_) rfl (fun w' g_ h_ => by obtain ⟨w1_, g1_, g0_, ra_, rc_, rM_, rR_, e_, S_, N_, hm_, hr_, G_⟩ := h_; exact behindw_spec ((FW_.gr g0_).mvE G_ (by intro j hj e; have := hA1 j hj; omega))) (by rintro wa va wb ca ha ⟨_, G_⟩; exact (ca.trans (V.FrE.ofGr (X := fun _ => False) G_)).mono (fun i h _ => h.elim id False.elim)) rfl rfl rfl ?_
       rintro _ _ _ _ _ ⟨rfl, -⟩
       refine V.mcall (R := fun w1_ v_ w2_ => v_ = .bool true ∧ Cells w2_ k59 [.int .i64 s2.1, .int .i64 s2.2] 38 ∧ Fr [k59] w1_ w2_) rfl (fun w' g_ h_ => by obtain ⟨w2_, g2_, ⟨w1_, g1_, g0_, ra_, rc_, rM_, rR_, e_, S_, N_, hm_, hr_, G_⟩, -, H_⟩ := h_; cases e_; have z1_ := V.Fr.size g0_; have z2_ := V.FrE.size G_; have z3_ := V.Fr.size H_; exact hears_spec (((Fk60.gr g0_).mvE G_ (by intro e; have := hA1 _ e; omega)).gr H_) (S_.gr H_) (by intro j hj; rcases (hr_ j hj).1 with e | e; (have := hA4 j e; omega); (have := hA3 j e; omega)) hhe (by intro e; rcases (hr_ _ e).1 with e | e; exact hA2 _ e rfl; exact (hA1 _ e).2.1 rfl)) (by rintro wa va wb ca ha ⟨_, _, G_⟩; exact (ca.trans (V.FrE.of1 (X := fun j => j = k59) G_ rfl)).mono (fun i h _ => h.elim id .inr)) rfl rfl rfl ?_
       rintro _ _ _ _ _ ⟨rfl, -, -⟩
       refine V.mnil ?_
       rintro w186 - ⟨w185, -, ⟨w184, -, ⟨w183, -, g0_, ra_, rc_, M187, rR_, e_, S_, N_, hm_, hr_, G1_⟩, -, G2_⟩, -, V_, G3_⟩
       clear e_ S_
       have z188 := V.Fr.size g0_
       clear F171
       have z189 := V.FrE.size G1_
       have z190 := V.Fr.size G2_
       clear Fk60
       have z191 := V.Fr.size G3_
       refine V.ru 1 ?_
       refine V.nt ?_
       refine V.sr ?_
       refine V.ru 2 ?_
       refine V.nt ?_
       refine V.condN rfl rfl ?_
       refine V.skip ?_
       refine V.bN ?_
       refine V.tN ?_
       refine V.region ?_
       refine V.ru 1 ?_
       refine V.addN rfl rfl rfl rfl rfl V.lenA V.lenA ?_
       refine V.ru 1 ?_
       refine V.nt ?_
       replace F_own := F_own.gr g0_
       replace F_own := F_own.mvE G1_ (by intro j h hd; (try dsimp only [V.In] at h hd ⊢); first | omega | grind)
       replace F_own := F_own.gr G2_
       replace F_own := F_own.mb G3_ hD_own
       replace F_sc := F_sc.gr g0_
       replace F_sc := F_sc.mvE G1_ (by intro j h hd; (try dsimp only [V.In] at h hd ⊢); first | omega | grind)
       replace F_sc := F_sc.gr G2_
       replace F_sc := F_sc.mb G3_ hD_sc
       replace N_ := N_.gr G2_
       replace N_ := N_.mv1 G3_ (by (try dsimp only [V.In]); first | omega | grind)
       replace HG := HG.grow g0_
       replace HG := HG.stepE G1_ (by intro i h; (try dsimp only [V.In] at h ⊢); first | omega | grind)
       replace HG := HG.grow G2_
       replace HG := HG.n1 G3_
       exact ⟨_, (by omega), HG, (by omega), F_own, F_sc, (outV (actV d x75)), (s2), (k167), (M187), (D169), (i2 + 1), rfl, (by omega), (by omega), (hI2), (hS2), ((by intro j h; grind)), ((by intro j h; grind)), N_, V_, rfl, rfl, rfl, rfl, rfl⟩
      ·
       try replace h26 := V.dec h26
       try simp only [V.mk] at h26
       
       refine V.skip ?_
       refine V.bN ?_
       refine V.tN ?_
       refine V.seq ?_
       clear F106
       replace F52 := F52.gr G110
       have hr192 : d = actV d x75 := (by unfold actV; rw [if_neg h22, if_neg h24, if_neg h26])
       rw [hr192] at F52
       clear hr192
       obtain ⟨⟨⟨s2, hhe, hI2⟩, hte2⟩, hS2⟩ := act_law (a := x75) hI hS hNok.1 hfl1
       have hA1 : ∀ j, Mn j → w.heap.size ≤ j ∧ j ≠ k59 ∧ j ≠ k87 ∧ j ≠ k102 ∧ j ≠ g103 := by intro j h; grind
       have hA2 : ∀ j, Dn j → j ≠ k59 := by intro j h; grind
       have hA3 := F52.lm
       have hA4 := F52.ld
       refine V.region ?_
       refine V.ru 1 ?_
       refine V.call (rhard_spec F52) rfl rfl rfl ?_
       rintro _ w193 ⟨rfl, G194⟩
       have z195 := V.Fr.size G194
       refine V.ru 5 ?_
       refine V.nt ?_
       refine V.seq ?_
       refine V.sr ?_
       refine V.ru 4 ?_
       refine V.splitF (j := 3) (t := 132) rfl rfl (by (exact decide_eq_false (Int.not_lt.2 hte2))) ?_
       refine V.ru 3 ?_
       refine V.nt ?_
       refine V.condN rfl rfl ?_
       refine V.skip ?_
       refine V.tN ?_
       refine V.sr ?_
       refine V.ru 2 ?_
       refine V.nt ?_
       refine V.seq ?_
       replace F_own := F_own.gr G90
       replace F_own := F_own.mb G95 hD_own
       replace F_own := F_own.gr (G100.trans (G110.trans G194))
       replace F_sc := F_sc.gr G90
       replace F_sc := F_sc.mb G95 hD_sc
       replace F_sc := F_sc.gr (G100.trans (G110.trans G194))
       replace F52 := F52.gr G194
       replace Fk60 := Fk60.gr G90
       replace Fk60 := Fk60.ma G95
       replace Fk60 := Fk60.gr (G100.trans (G110.trans G194))
       replace F79 := F79.gr (G100.trans (G110.trans G194))
       replace F82 := F82.gr (G100.trans (G110.trans G194))
       replace F85 := F85.gr (G100.trans (G110.trans G194))
       replace Fk88 := Fk88.gr G194
       replace FW_ := FW_.gr G194
       replace HG := HG.grow G90
       replace HG := HG.n1 G95
       replace HG := HG.grow (G100.trans (G110.trans G194))
       refine V.drawMT 12 (fun w_ => V.FrE (fun j => Mn j ∨ j = k59) w193 w_) (fun i => Nat.beq i 2 || Nat.beq i 10 || Nat.beq i 11) (fun _ g_ => V.FrE.ofGr g_) mixed (by kernel_rfl) (by kernel_rfl) ?_
       refine V.mrun T_ok 2 rfl rfl ?_
       refine V.mcall (R := fun w1_ v_ w2_ => ∃ (ra_ : Option Addr) (rc_ : Nat) (rM_ rR_ : Nat → Prop), v_ = .slice ra_ (actV d x75).out.length rc_ ∧ Sl V.Cod.rmsg w2_ rR_ ra_ rc_ (actV d x75).out ∧ Nd w2_ kn rM_ Dn (outV (actV d x75)) ∧ (∀ j, rM_ j → Mn j) ∧ (∀ j, rR_ j → (Dn j ∨ Mn j) ∧ ¬ rM_ j) ∧ V.FrE Mn w1_ w2_) rfl (fun w' g_ h_ => rout_spec (F52.gr h_)) (by rintro wa va wb ca ha ⟨_, _, _, _, _, _, _, _, _, G_⟩; exact (ca.trans G_).mono (fun i h _ => h.elim id .inl)) rfl rfl rfl ?_
       rintro _ _ _ _ _ ⟨a196, c197, _, _, rfl, -, -, -, -, -⟩
       refine V.mrun T_ok 3 rfl rfl ?_
       refine V.mloadO T_ok (fun w' g_ => V.Cells.mvE Fk88 g_ (by (try dsimp only); first | omega | grind)) rfl rfl rfl rfl rfl rfl ?_
       refine V.mrun T_ok 2 rfl rfl ?_
       refine V.mloadO T_ok (fun w' g_ => V.Cells.mvE Fk88 g_ (by (try dsimp only); first | omega | grind)) rfl rfl rfl rfl rfl rfl ?_
       refine V.mcall (R := fun w1_ v_ w2_ => v_ = .bool (behV d.L x75.m.ix x75.m.lt) ∧ Gr w1_ w2_) rfl (fun w' g_ h_ => by obtain ⟨w1_, g1_, g0_, ra_, rc_, rM_, rR_, e_, S_, N_, hm_, hr_, G_⟩ := h_; exact behindw_spec ((FW_.gr g0_).mvE G_ (by intro j hj e; have := hA1 j hj; omega))) (by rintro wa va wb ca ha ⟨_, G_⟩; exact (ca.trans (V.FrE.ofGr (X := fun _ => False) G_)).mono (fun i h _ => h.elim id False.elim)) rfl rfl rfl ?_
       rintro _ _ _ _ _ ⟨rfl, -⟩
       refine V.mcall (R := fun w1_ v_ w2_ => v_ = .bool true ∧ Cells w2_ k59 [.int .i64 s2.1, .int .i64 s2.2] 38 ∧ Fr [k59] w1_ w2_) rfl (fun w' g_ h_ => by obtain ⟨w2_, g2_, ⟨w1_, g1_, g0_, ra_, rc_, rM_, rR_, e_, S_, N_, hm_, hr_, G_⟩, -, H_⟩ := h_; cases e_; have z1_ := V.Fr.size g0_; have z2_ := V.FrE.size G_; have z3_ := V.Fr.size H_; exact hears_spec (((Fk60.gr g0_).mvE G_ (by intro e; have := hA1 _ e; omega)).gr H_) (S_.gr H_) (by intro j hj; rcases (hr_ j hj).1 with e | e; (have := hA4 j e; omega); (have := hA3 j e; omega)) hhe (by intro e; rcases (hr_ _ e).1 with e | e; exact hA2 _ e rfl; exact (hA1 _ e).2.1 rfl)) (by rintro wa va wb ca ha ⟨_, _, G_⟩; exact (ca.trans (V.FrE.of1 (X := fun j => j = k59) G_ rfl)).mono (fun i h _ => h.elim id .inr)) rfl rfl rfl ?_
       rintro _ _ _ _ _ ⟨rfl, -, -⟩
       refine V.mnil ?_
       rintro w201 - ⟨w200, -, ⟨w199, -, ⟨w198, -, g0_, ra_, rc_, M202, rR_, e_, S_, N_, hm_, hr_, G1_⟩, -, G2_⟩, -, V_, G3_⟩
       clear e_ S_
       have z203 := V.Fr.size g0_
       clear F52
       have z204 := V.FrE.size G1_
       have z205 := V.Fr.size G2_
       clear Fk60
       have z206 := V.Fr.size G3_
       refine V.ru 1 ?_
       refine V.nt ?_
       refine V.sr ?_
       refine V.ru 2 ?_
       refine V.nt ?_
       refine V.condN rfl rfl ?_
       refine V.skip ?_
       refine V.bN ?_
       refine V.tN ?_
       refine V.region ?_
       refine V.ru 1 ?_
       refine V.addN rfl rfl rfl rfl rfl V.lenA V.lenA ?_
       refine V.ru 1 ?_
       refine V.nt ?_
       replace F_own := F_own.gr g0_
       replace F_own := F_own.mvE G1_ (by intro j h hd; (try dsimp only [V.In] at h hd ⊢); first | omega | grind)
       replace F_own := F_own.gr G2_
       replace F_own := F_own.mb G3_ hD_own
       replace F_sc := F_sc.gr g0_
       replace F_sc := F_sc.mvE G1_ (by intro j h hd; (try dsimp only [V.In] at h hd ⊢); first | omega | grind)
       replace F_sc := F_sc.gr G2_
       replace F_sc := F_sc.mb G3_ hD_sc
       replace N_ := N_.gr G2_
       replace N_ := N_.mv1 G3_ (by (try dsimp only [V.In]); first | omega | grind)
       replace HG := HG.grow g0_
       replace HG := HG.stepE G1_ (by intro i h; (try dsimp only [V.In] at h ⊢); first | omega | grind)
       replace HG := HG.grow G2_
       replace HG := HG.n1 G3_
       exact ⟨_, (by omega), HG, (by omega), F_own, F_sc, (outV (actV d x75)), (s2), (kn), (M202), (Dn), (i2 + 1), rfl, (by omega), (by omega), (hI2), (hS2), ((by intro j h; grind)), ((by intro j h; grind)), N_, V_, rfl, rfl, rfl, rfl, rfl⟩
  ·
   try replace h15 := V.dec h15
   try simp only [V.mk] at h15
   refine V.exit ?_
   refine V.tX ?_
   refine V.tX ?_
   refine V.bE ?_
   refine V.tN ?_
   refine V.sr ?_
   refine V.call (ralive_spec) rfl rfl rfl ?_
   rintro _ w207 ⟨rfl, G208⟩
   have z209 := V.Fr.size G208
   refine V.ru 1 ?_
   refine V.nt ?_
   refine V.ret ?_
   refine V.done rfl ?_
   replace HG := HG.grow G208
   exact ⟨(by first | rfl | simp only [List.length_set]), HG⟩

end Go.Proofs.Ytphohfpbdkgnaaa
