/- Proved here: walks: what functions of this seat's program return and what they leave of memory, each as a contract. Conditions: stated at each theorem. -/
import Derived.Test.YtaekbikdeeaphaaMle3
namespace Go.Proofs.Ytaekbikdeeaphaa
set_option linter.unusedVariables false
set_option linter.unusedSimpArgs false
open Go
open V (Bytes Meets Env Sl Own Gr Fr Cells S)
/-- is d2 what is left of d when it forgets up to a? -/
def CmpOf (d2 d : LogV) (a : Int) : Prop := d2.base = a ∧ d2.l = d.l.drop (a - d.base).toNat
theorem cmp_of {d : LogV} {a : Int} (h : isV d a = true) : CmpOf (cmpV d a) d a ∧ (cmpV d a).term = trmV d a := by unfold cmpV CmpOf; rw [if_pos h]; exact ⟨⟨rfl, rfl⟩, rfl⟩
section
variable {d d2 : LogV} {a p : Int} {es : List (Int × List UInt8)}
theorem CmpOf.len (h : CmpOf d2 d a) : d2.l.length = d.l.length - (a - d.base).toNat := by rw [h.2, List.length_drop]
theorem CmpOf.last (h : CmpOf d2 d a) (ha : d.base ≤ a ∧ a ≤ d.base + d.l.length) : d2.base + d2.l.length = d.base + d.l.length := by rw [h.1, h.len]; omega
theorem CmpOf.is (h : CmpOf d2 d a) (ha : d.base ≤ a ∧ a ≤ d.base + d.l.length) {i : Int} (hi : a ≤ i) : isV d2 i = isV d i := by
  rw [Bool.eq_iff_iff, isI, isI, h.last ha, h.1]; omega
theorem CmpOf.trm (h : CmpOf d2 d a) (ht : d2.term = trmV d a) (ha : d.base ≤ a ∧ a ≤ d.base + d.l.length) {i : Int} (hi : a ≤ i) : trmV d2 i = trmV d i := by
  rcases Int.lt_or_eq_of_le hi with h2 | h2
  · rcases Int.lt_or_le (d.base + d.l.length) i with h3 | h3
    · rw [trm_no (by rw [h.last ha]; omega), trm_no (by omega)]
    · have hn : (i - d.base - 1).toNat < d.l.length := by omega
      have hl := h.last ha
      rw [trm_in (d := d) (i := i) (by omega) rfl (List.getElem?_eq_getElem hn)]
      refine trm_in (by rw [hl, h.1]; omega) rfl ?_
      rw [h.2, List.getElem?_drop, h.1, show (a - d.base).toNat + (i - a - 1).toNat = (i - d.base - 1).toNat by omega]
      exact List.getElem?_eq_getElem hn
  · subst h2
    have e : trmV d2 a = trmV d2 d2.base := by rw [h.1]
    rw [e, trm_base, ht]
theorem CmpOf.mat (h : CmpOf d2 d a) (ht : d2.term = trmV d a) (ha : d.base ≤ a ∧ a ≤ d.base + d.l.length) (hp : a ≤ p) (j : Nat) : mat d2 p es j = mat d p es j := by
  show (isV d2 (p + 1 + j) && decide (trmV d2 (p + 1 + j) = _)) = (isV d (p + 1 + j) && decide (trmV d (p + 1 + j) = _))
  rw [h.is ha (by omega), h.trm ht ha (by omega)]
theorem CmpOf.first (h : CmpOf d2 d a) (ht : d2.term = trmV d a) (ha : d.base ≤ a ∧ a ≤ d.base + d.l.length) (hp : a ≤ p) : firstNo d2 p es = firstNo d p es := by
  unfold firstNo; congr 1; funext j; rw [h.mat ht ha hp]
theorem CmpOf.layI (h : CmpOf d2 d a) (ht : d2.term = trmV d a) (ha : d.base ≤ a ∧ a ≤ d.base + d.l.length) (hp : a ≤ p) : layI d2 p es = layI d p es := by unfold Go.Proofs.Ytaekbikdeeaphaa.layI; rw [h.first ht ha hp]
theorem CmpOf.lay (h : CmpOf d2 d a) (ht : d2.term = trmV d a) (ha : d.base ≤ a ∧ a ≤ d.base + d.l.length) (hp : a ≤ p) (hq : p ≤ d.base + d.l.length) : CmpOf (layV d2 p es) (layV d p es) a := by
  by_cases hf : firstNo d p es < es.length
  · have hin := (lay_len (es := es) hf ⟨by omega, hq⟩).2
    have hf2 : firstNo d2 p es < es.length := by rw [h.first ht ha hp]; exact hf
    unfold layV
    rw [if_pos hf, if_pos hf2, h.first ht ha hp]
    refine ⟨h.1, ?_⟩
    dsimp only
    rw [h.2, h.1, List.drop_append_of_le_length (by rw [List.length_take]; omega), List.drop_take]
    congr 2
    omega
  · have hf2 : ¬ firstNo d2 p es < es.length := by rw [h.first ht ha hp]; exact hf
    rw [lay_same hf, lay_same hf2]; exact h
theorem CmpOf.frm (h : CmpOf d2 d a) (ha : d.base ≤ a ∧ a ≤ d.base + d.l.length) (m : Int) : fromV d2 (a + 1) m = fromV d (a + 1) m := by
  unfold fromV
  have hh : hasV d2 (a + 1) = hasV d (a + 1) := by rw [Bool.eq_iff_iff, hasI, hasI, h.last ha, h.1]; omega
  rw [hh]
  split
  · rw [h.1, h.2, List.drop_drop]; congr 2; omega
  · rfl
end

set_option maxHeartbeats 300000 in
set_option maxRecDepth 10000 in
theorem entriesCompacted_walk {w : World}  {D_own : Nat → Prop} {c_own : Nat} {a_own : Option Addr} {own : List (Int × List UInt8)} (F_own : Sl V.Cod.ent w D_own a_own c_own own) (hD_own : ∀ k, D_own k → k < w.heap.size) {a0 : Int} {a1 : Int} {D_es : Nat → Prop} {c_es : Nat} {a_es : Option Addr} {es : List (Int × List UInt8)} (F_es : Sl V.Cod.ent w D_es a_es c_es es) (hD_es : ∀ k, D_es k → k < w.heap.size)  :
    Meets Try.prog 6 [.slice a_own own.length c_own, .agg #[.int .i64 a0, .int .i64 a1], .slice a_es es.length c_es] w fun r w' => r = .bool true ∧ Gr w w' := by
 have HG := V.Fr.refl [] w
 refine V.enter (n := 199) Try.func6 rfl rfl (by decide) rfl ?_
 refine V.seq ?_
 refine V.region ?_
 refine V.box rfl rfl rfl rfl ?_
 rintro k1 w3 s5 s6 G4 Fk2
 have z7 := V.Fr.size G4
 try replace F_own := F_own.gr G4
 try replace F_es := F_es.gr G4
 replace HG := HG.grow G4
 clear G4
 try simp only [V.cellsL, V.spliceL] at Fk2
 refine V.run T_ok 1 rfl ?_
 refine V.nil ?_
 refine V.tN ?_
 refine V.seq ?_
 refine V.region ?_
 refine V.call (new_spec (b := 0) (t := 0) (by decide)) rfl rfl rfl ?_
 rintro _ w15 ⟨k8, g9, B10, rfl, ⟨h11l, h11u⟩, F12, h13, h14, G16⟩
 have z17 := V.Fr.size G16
 try replace F_own := F_own.gr G16
 try replace F_es := F_es.gr G16
 try replace Fk2 := Fk2.gr G16
 replace HG := HG.grow G16
 clear G16
 refine V.run T_ok 5 rfl ?_
 refine V.nil ?_
 refine V.tN ?_
 refine V.seq ?_
 refine V.seq ?_
 refine V.region ?_
 refine V.run T_ok 6 rfl ?_
 refine V.nil ?_
 refine V.tN ?_
 refine V.condN rfl rfl ?_
 refine V.skip ?_
 refine V.tN ?_
 refine V.seq ?_
 refine V.seq ?_
 refine V.region ?_
 refine V.run T_ok 1 rfl ?_
 refine V.nil ?_
 refine V.tN ?_
 refine V.block ?_
 have hl63p := F_own.len63
 refine V.loopM (fun m e v19 => Fr [] w v19 ∧ w15.heap.size ≤ v19.heap.size ∧ Sl V.Cod.ent v19 D_own a_own c_own own ∧ Sl V.Cod.ent v19 D_es a_es c_es es ∧ Cells v19 k1 [.int .i64 a0, .int .i64 a1] 47 ∧ ∃ (ip : Nat) (curp : LogV) (gp : Nat) (Bp : Nat → Prop) , m = own.length - ip ∧ ip ≤ own.length ∧ ip ≤ 20 ∧ curp.l.length ≤ ip ∧ curp.base = 0 ∧ lastT curp ≤ 1099511627776 ∧ curp.term = 0 ∧ (∀ y ∈ curp.l, 0 ≤ y.1 ∧ y.1 ≤ 1099511627776) ∧ w3.heap.size ≤ gp ∧ (∀ j, Bp j → w3.heap.size ≤ j) ∧ Lg v19 k8 gp Bp curp ∧ e 0 = .slice a_own own.length c_own ∧ e 2 = .slice a_es es.length c_es ∧ e 4 = .pointer (some ⟨k1, 0, none⟩) ∧ e 7 = .pointer (some ⟨k8, 0, none⟩) ∧ e 9 = .int .i64 (ip : Int)) ?_ ?_
 ·
  exact ⟨_, HG, (by omega), F_own, F_es, Fk2, (0), (⟨0, 0, []⟩), (g9), (B10), rfl, (Nat.zero_le _), ((by omega)), ((by simp)), (rfl), ((by decide)), (rfl), ((fun y h => by cases h)), ((by omega)), ((by intro j h; grind)), F12, rfl, rfl, rfl, rfl, rfl⟩
 clear HG F_own F_es Fk2 F12
 rintro _ e v19 ⟨HG, z20, F_own, F_es, Fk2, ip, curp, gp, Bp, rfl, hip, hi2p, hclp, hcbp, hltp, hctp, hall, hglp, hBlp, F12, he0_0, he0_2, he0_4, he0_7, he0_9⟩
 refine V.knownC (t := 0) he0_0 ?_
 refine V.knownC (t := 2) he0_2 ?_
 refine V.knownC (t := 4) he0_4 ?_
 refine V.knownC (t := 7) he0_7 ?_
 refine V.knownC (t := 9) he0_9 ?_
 refine V.seq ?_
 refine V.seq ?_
 refine V.region ?_
 refine V.run T_ok 5 rfl ?_
 refine V.andG T_ok 2 4 41 rfl rfl rfl rfl rfl rfl rfl rfl ?_
 refine V.nil ?_
 refine V.tN ?_
 refine V.condT rfl (fun h5 => ?_) (fun h5 => ?_)
 ·
  try replace h5 := V.dec h5
  try simp only [V.mk0, V.mk1, V.mk2, V.mk3] at h5
  refine V.skip ?_
  refine V.tN ?_
  refine V.seq ?_
  refine V.block ?_
  refine V.seq ?_
  refine V.region ?_
  refine V.run T_ok 2 rfl ?_
  refine V.elem T_ok F_own rfl rfl sz29 rfl rfl rfl rfl (by first | omega | (simp only [List.length_take, List.length_drop, List.length_append, List.length_cons, List.length_nil, List.length_replicate, List.length_set, V.length_data, V.S_size]; omega)) (by first | omega | (simp only [List.length_take, List.length_drop, List.length_append, List.length_cons, List.length_nil, List.length_replicate, List.length_set, V.length_data, V.S_size]; omega)) ?_
  rintro b21 o22 cs23 hx24 hb25 hR31 hA26
  obtain ⟨x27, hx27⟩ : ∃ z', own[((ip : Int)).toNat] = z' := ⟨_, rfl⟩
  rw [hx27] at hR31
  obtain ⟨_, _, rfl, rfl, ⟨a28, c29, rfl, F30⟩⟩ := hR31
  try simp only [Int.toNat_natCast] at hx27 hx24
  refine V.run T_ok 1 rfl ?_
  refine V.loadA T_ok (o0 := o22) (off := 1) hA26 rfl rfl rfl rfl rfl ?_
  refine V.run T_ok 2 rfl ?_
  refine V.nil ?_
  refine V.tN ?_
  refine V.condT rfl (fun h7 => ?_) (fun h7 => ?_)
  ·
   try replace h7 := V.dec h7
   try simp only [V.mk0, V.mk1, V.mk2, V.mk3] at h7
   refine V.region ?_
   refine V.run T_ok 3 rfl ?_
   refine V.elem T_ok F_own rfl rfl sz29 rfl rfl rfl rfl (by first | omega | (simp only [List.length_take, List.length_drop, List.length_append, List.length_cons, List.length_nil, List.length_replicate, List.length_set, V.length_data, V.S_size]; omega)) (by first | omega | (simp only [List.length_take, List.length_drop, List.length_append, List.length_cons, List.length_nil, List.length_replicate, List.length_set, V.length_data, V.S_size]; omega)) ?_
   rintro b32 o33 cs34 hx35 hb36 hR42 hA37
   obtain ⟨x38, hx38⟩ : ∃ z', own[((ip : Int)).toNat] = z' := ⟨_, rfl⟩
   rw [hx38] at hR42
   obtain ⟨_, _, rfl, rfl, ⟨a39, c40, rfl, F41⟩⟩ := hR42
   try simp only [Int.toNat_natCast] at hx38 hx35
   obtain rfl : x27 = x38 := hx27.symm.trans hx38
   refine V.loadA T_ok (o0 := o33) (off := 0) hA37 rfl rfl rfl rfl rfl ?_
   refine V.call (append_spec (t := x27.1) F12 F41 (fun k hk => by have := hD_own k hk; omega) (by first | omega | simp | decide)) rfl rfl rfl ?_
   rintro _ w48 ⟨g43, B44, rfl, F45, h46, h47, G49⟩
   obtain ⟨w50, G51, G52⟩ := V.Fr.two G49
   clear G49
   have z53 := V.Fr.size G51
   first | replace F_own := F_own.mb G51 hD_own | clear F_own | skip
   first | replace F_es := F_es.mb G51 hD_es | clear F_es | skip
   first | replace Fk2 := Fk2.mv1 G51 (by omega) | clear Fk2 | skip
   first | replace F12 := F12.mv1 G51 (by (try dsimp only [V.In]); first | omega | grind) | clear F12 | skip
   first | replace F30 := F30.mb G51 hD_own | clear F30 | skip
   first | replace F41 := F41.mb G51 hD_own | clear F41 | skip
   replace HG := HG.n1 G51
   clear G51
   have z54 := V.Fr.size G52
   first | replace F_own := F_own.mb G52 hD_own | clear F_own | skip
   first | replace F_es := F_es.mb G52 hD_es | clear F_es | skip
   first | replace Fk2 := Fk2.mv1 G52 (by omega) | clear Fk2 | skip
   first | replace F12 := F12.mv1 G52 (by (try dsimp only [V.In]); first | omega | grind) | clear F12 | skip
   first | replace F30 := F30.mb G52 hD_own | clear F30 | skip
   first | replace F41 := F41.mb G52 hD_own | clear F41 | skip
   replace HG := HG.n1 G52
   clear G52
   refine V.nil ?_
   refine V.bN ?_
   refine V.tN ?_
   refine V.region ?_
   refine V.run T_ok 1 rfl ?_
   refine V.addN rfl rfl rfl rfl rfl (by first | omega | (simp only [List.length_take, List.length_drop, List.length_append, List.length_cons, List.length_nil, List.length_replicate, List.length_set, V.length_data, V.S_size]; omega)) (by first | omega | (simp only [List.length_take, List.length_drop, List.length_append, List.length_cons, List.length_nil, List.length_replicate, List.length_set, V.length_data, V.S_size]; omega)) ?_
   refine V.run T_ok 1 rfl ?_
   refine V.nil ?_
   refine V.tN ?_
   have hab := app_base curp x27.1 x27.2
   have hal := app_len curp x27.1 x27.2
   have hat := app_lastT (t := x27.1) (x := x27.2) hltp
   have ham := app_term curp x27.1 x27.2
   have haa := app_all (t := x27.1) (x := x27.2) hctp hall
   exact ⟨_, (by omega), HG, (by omega), F_own, F_es, Fk2, (ip + 1), (appV curp x27.1 x27.2), (g43), (B44), rfl, (by omega), (by omega), ((by omega)), ((by omega)), ((by omega)), ((by omega)), (haa), ((by omega)), ((by intro j h; grind)), F45, rfl, rfl, rfl, rfl, rfl⟩
  ·
   try replace h7 := V.dec h7
   try simp only [V.mk0, V.mk1, V.mk2, V.mk3] at h7
   refine V.skip ?_
   refine V.bN ?_
   refine V.tN ?_
   refine V.region ?_
   refine V.run T_ok 1 rfl ?_
   refine V.addN rfl rfl rfl rfl rfl (by first | omega | (simp only [List.length_take, List.length_drop, List.length_append, List.length_cons, List.length_nil, List.length_replicate, List.length_set, V.length_data, V.S_size]; omega)) (by first | omega | (simp only [List.length_take, List.length_drop, List.length_append, List.length_cons, List.length_nil, List.length_replicate, List.length_set, V.length_data, V.S_size]; omega)) ?_
   refine V.run T_ok 1 rfl ?_
   refine V.nil ?_
   refine V.tN ?_
   have haa := hall
   exact ⟨_, (by omega), HG, (by omega), F_own, F_es, Fk2, (ip + 1), (curp), (gp), (Bp), rfl, (by omega), (by omega), ((by omega)), ((by omega)), ((by omega)), ((by omega)), (haa), ((by omega)), ((by intro j h; grind)), F12, rfl, rfl, rfl, rfl, rfl⟩
 ·
  try replace h5 := V.dec h5
  try simp only [V.mk0, V.mk1, V.mk2, V.mk3] at h5
  refine V.exit ?_
  refine V.tX ?_
  refine V.tX ?_
  refine V.bE ?_
  refine V.tN ?_
  refine V.seq ?_
  refine V.seq ?_
  refine V.region ?_
  refine V.run T_ok 1 rfl ?_
  refine V.nil ?_
  refine V.tN ?_
  refine V.block ?_
  have hel := F_es.len63
  refine V.loopM (fun m e v56 => v19 = v56 ∧ ∃ (i : Nat) , m = es.length - i ∧ i ≤ es.length ∧ i ≤ 20 ∧ (∀ j (h1 : j < es.length), j < i → es[j].2.length ≤ 100) ∧ e 2 = .slice a_es es.length c_es ∧ e 4 = .pointer (some ⟨k1, 0, none⟩) ∧ e 7 = .pointer (some ⟨k8, 0, none⟩) ∧ e 10 = .int .i64 (i : Int)) ?_ ?_
  ·
   exact ⟨_, rfl, (0), rfl, (Nat.zero_le _), (Nat.zero_le _), (fun j _ h => absurd h (Nat.not_lt_zero _)), rfl, rfl, rfl, rfl⟩
  rintro _ e v56 ⟨rfl, i, rfl, hi, hi20, hsm, he1_2, he1_4, he1_7, he1_10⟩
  refine V.knownC (t := 2) he1_2 ?_
  refine V.knownC (t := 4) he1_4 ?_
  refine V.knownC (t := 7) he1_7 ?_
  refine V.knownC (t := 10) he1_10 ?_
  refine V.seq ?_
  refine V.seq ?_
  refine V.region ?_
  refine V.run T_ok 4 rfl ?_
  refine V.nil ?_
  refine V.tN ?_
  refine V.condT rfl (fun h10 => ?_) (fun h10 => ?_)
  ·
   try replace h10 := V.dec h10
   try simp only [V.mk0, V.mk1, V.mk2, V.mk3] at h10
   refine V.skip ?_
   refine V.tN ?_
   refine V.seq ?_
   refine V.block ?_
   refine V.seq ?_
   refine V.region ?_
   refine V.run T_ok 3 rfl ?_
   refine V.split (j := 2) (t := 68) rfl rfl (fun g12_2 => ?_) (fun g12_2 => ?_)
   ·
    try replace g12_2 := V.dec g12_2
    try simp only [V.mk0, V.mk1, V.mk2, V.mk3] at g12_2
    refine V.run T_ok 8 rfl ?_
    refine V.nil ?_
    refine V.tN ?_
    refine V.condY rfl rfl ?_
    refine V.seq ?_
    refine V.region ?_
    refine V.call (alive_spec) rfl rfl rfl ?_
    rintro _ w57 ⟨rfl, G58⟩
    have z59 := V.Fr.size G58
    try replace F_own := F_own.gr G58
    try replace F_es := F_es.gr G58
    try replace Fk2 := Fk2.gr G58
    try replace F12 := F12.gr G58
    replace HG := HG.grow G58
    clear G58
    refine V.run T_ok 1 rfl ?_
    refine V.nil ?_
    refine V.tN ?_
    refine V.ret ?_
    refine V.bR ?_
    refine V.tR ?_
    refine V.tR ?_
    refine V.bR ?_
    refine V.tR ?_
    refine V.done rfl ?_
    exact ⟨(by first | rfl | simp only [List.length_set]), HG⟩
   ·
    try replace g12_2 := V.dec g12_2
    try simp only [V.mk0, V.mk1, V.mk2, V.mk3] at g12_2
    refine V.run T_ok 2 rfl ?_
    refine V.yes rfl rfl rfl ?_
    refine V.elem T_ok F_es rfl rfl sz29 rfl rfl rfl rfl (by first | omega | (simp only [List.length_take, List.length_drop, List.length_append, List.length_cons, List.length_nil, List.length_replicate, List.length_set, V.length_data, V.S_size]; omega)) (by first | omega | (simp only [List.length_take, List.length_drop, List.length_append, List.length_cons, List.length_nil, List.length_replicate, List.length_set, V.length_data, V.S_size]; omega)) ?_
    rintro b60 o61 cs62 hx63 hb64 hR70 hA65
    obtain ⟨x66, hx66⟩ : ∃ z', es[((i : Int)).toNat] = z' := ⟨_, rfl⟩
    rw [hx66] at hR70
    obtain ⟨_, _, rfl, rfl, ⟨a67, c68, rfl, F69⟩⟩ := hR70
    try simp only [Int.toNat_natCast] at hx66 hx63
    refine V.run T_ok 1 rfl ?_
    refine V.yes rfl rfl rfl ?_
    refine V.loadA T_ok (o0 := o61) (off := 1) hA65 rfl rfl rfl rfl rfl ?_
    refine V.run T_ok 3 rfl ?_
    refine V.nil ?_
    refine V.tN ?_
    refine V.condT rfl (fun h12 => ?_) (fun h12 => ?_)
    ·
     try replace h12 := V.dec h12
     try simp only [V.mk0, V.mk1, V.mk2, V.mk3] at h12
     refine V.seq ?_
     refine V.region ?_
     refine V.call (alive_spec) rfl rfl rfl ?_
     rintro _ w71 ⟨rfl, G72⟩
     have z73 := V.Fr.size G72
     try replace F_own := F_own.gr G72
     try replace F_es := F_es.gr G72
     try replace Fk2 := Fk2.gr G72
     try replace F12 := F12.gr G72
     try replace F69 := F69.gr G72
     replace HG := HG.grow G72
     clear G72
     refine V.run T_ok 1 rfl ?_
     refine V.nil ?_
     refine V.tN ?_
     refine V.ret ?_
     refine V.bR ?_
     refine V.tR ?_
     refine V.tR ?_
     refine V.bR ?_
     refine V.tR ?_
     refine V.done rfl ?_
     exact ⟨(by first | rfl | simp only [List.length_set]), HG⟩
    ·
     try replace h12 := V.dec h12
     try simp only [V.mk0, V.mk1, V.mk2, V.mk3] at h12
     refine V.skip ?_
     refine V.bN ?_
     refine V.tN ?_
     refine V.region ?_
     refine V.run T_ok 1 rfl ?_
     refine V.addN rfl rfl rfl rfl rfl (by first | omega | (simp only [List.length_take, List.length_drop, List.length_append, List.length_cons, List.length_nil, List.length_replicate, List.length_set, V.length_data, V.S_size]; omega)) (by first | omega | (simp only [List.length_take, List.length_drop, List.length_append, List.length_cons, List.length_nil, List.length_replicate, List.length_set, V.length_data, V.S_size]; omega)) ?_
     refine V.run T_ok 1 rfl ?_
     refine V.nil ?_
     refine V.tN ?_
     exact ⟨_, (by omega), rfl, (i + 1), rfl, (by omega), (by omega), (fun j h1 h2 => by rcases Nat.lt_or_ge j i with h | h; exact hsm j h1 h; obtain rfl : j = i := (by omega); rw [hx66]; omega), rfl, rfl, rfl, rfl⟩
  ·
   try replace h10 := V.dec h10
   try simp only [V.mk0, V.mk1, V.mk2, V.mk3] at h10
   refine V.exit ?_
   refine V.tX ?_
   refine V.tX ?_
   refine V.bE ?_
   refine V.tN ?_
   refine V.seq ?_
   have hde := all_small (fun j h1 => hsm j h1 (by omega))
   have hnkl := F12.nk
   have hkl1 := F12.lt
   have hgl1 := F12.gl
   have hBl1 := F12.bl
   have hlz : lastI curp = curp.base + curp.l.length := rfl
   refine V.region ?_
   refine V.run T_ok 1 rfl ?_
   refine V.call (copy_spec F12) rfl rfl rfl ?_
   rintro _ w81 ⟨k74, g75, B76, rfl, ⟨h77l, h77u⟩, F78, h79, h80, G82⟩
   have z83 := V.Fr.size G82
   try replace F_own := F_own.gr G82
   try replace F_es := F_es.gr G82
   try replace Fk2 := Fk2.gr G82
   try replace F12 := F12.gr G82
   replace HG := HG.grow G82
   clear G82
   refine V.run T_ok 1 rfl ?_
   refine V.nil ?_
   refine V.tN ?_
   refine V.seq ?_
   refine V.region ?_
   refine V.run T_ok 1 rfl ?_
   refine V.call (last_spec F12) rfl rfl rfl ?_
   rintro _ w84 ⟨rfl, G85⟩
   have z86 := V.Fr.size G85
   try replace F_own := F_own.gr G85
   try replace F_es := F_es.gr G85
   try replace Fk2 := Fk2.gr G85
   try replace F12 := F12.gr G85
   try replace F78 := F78.gr G85
   replace HG := HG.grow G85
   clear G85
   refine V.run T_ok 5 rfl ?_
   refine V.nil ?_
   refine V.tN ?_
   refine V.seq ?_
   refine V.region ?_
   refine V.run T_ok 1 rfl ?_
   refine V.elemP T_ok rfl rfl rfl rfl rfl rfl (by first | omega | decide) (by first | omega | decide) ?_
   refine V.loadO T_ok Fk2 rfl rfl rfl rfl rfl ?_
   refine V.call (term_spec (i := a0) F12) rfl rfl rfl ?_
   rintro _ w87 ⟨rfl, G88⟩
   have z89 := V.Fr.size G88
   try replace F_own := F_own.gr G88
   try replace F_es := F_es.gr G88
   try replace Fk2 := Fk2.gr G88
   try replace F12 := F12.gr G88
   try replace F78 := F78.gr G88
   replace HG := HG.grow G88
   clear G88
   refine V.run T_ok 5 rfl ?_
   refine V.nil ?_
   refine V.tN ?_
   refine V.seq ?_
   have hkc1 := F78.lt
   refine V.region ?_
   refine V.run T_ok 1 rfl ?_
   refine V.elemP T_ok rfl rfl rfl rfl rfl rfl (by first | omega | decide) (by first | omega | decide) ?_
   refine V.loadO T_ok Fk2 rfl rfl rfl rfl rfl ?_
   refine V.call (compact_spec (i := a0) F78) rfl rfl rfl ?_
   rintro _ w95 ⟨g90, B91, rfl, F92, h93, h94, G96⟩
   have z97 := V.Fr.size G96
   first | replace F_own := F_own.mb G96 hD_own | clear F_own | skip
   first | replace F_es := F_es.mb G96 hD_es | clear F_es | skip
   first | replace Fk2 := Fk2.mv1 G96 (by omega) | clear Fk2 | skip
   first | replace F12 := F12.mv1 G96 (by (try dsimp only [V.In]); first | omega | grind) | clear F12 | skip
   first | replace F78 := F78.mv1 G96 (by (try dsimp only [V.In]); first | omega | grind) | clear F78 | skip
   replace HG := HG.n1 G96
   clear G96
   refine V.run T_ok 1 rfl ?_
   refine V.nil ?_
   refine V.tN ?_
   refine V.seq ?_
   refine V.seq ?_
   refine V.region ?_
   refine V.run T_ok 5 rfl ?_
   refine V.splitF (j := 4) (t := 100) rfl rfl (by (by_cases hq : isV curp a0 = true <;> simp [hq])) ?_
   refine V.run T_ok 3 rfl ?_
   refine V.nil ?_
   refine V.tN ?_
   refine V.condN rfl (by (by_cases hq : isV curp a0 = true <;> simp [hq])) ?_
   refine V.skip ?_
   refine V.tN ?_
   refine V.seq ?_
   refine V.seq ?_
   refine V.region ?_
   refine V.run T_ok 2 rfl ?_
   refine V.nil ?_
   refine V.tN ?_
   refine V.condT rfl (fun h20 => ?_) (fun h20 => ?_)
   ·
    try replace h20 := V.dec h20
    try simp only [V.mk0, V.mk1, V.mk2, V.mk3] at h20
    refine V.seq ?_
    refine V.region ?_
    refine V.call (alive_spec) rfl rfl rfl ?_
    rintro _ w98 ⟨rfl, G99⟩
    have z100 := V.Fr.size G99
    try replace F_own := F_own.gr G99
    try replace F_es := F_es.gr G99
    try replace Fk2 := Fk2.gr G99
    try replace F12 := F12.gr G99
    try replace F92 := F92.gr G99
    replace HG := HG.grow G99
    clear G99
    refine V.run T_ok 1 rfl ?_
    refine V.nil ?_
    refine V.tN ?_
    refine V.ret ?_
    refine V.tR ?_
    refine V.done rfl ?_
    exact ⟨(by first | rfl | simp only [List.length_set]), HG⟩
   ·
    try replace h20 := V.dec h20
    try simp only [V.mk0, V.mk1, V.mk2, V.mk3] at h20
    refine V.skip ?_
    refine V.tN ?_
    refine V.seq ?_
    have his : isV curp a0 = true := by grind
    have hia := isI.1 his
    have hC := cmp_of his
    have hCl := hC.1.last hia
    have hCn := hC.1.len
    have hCb : (cmpV curp a0).base = a0 := hC.1.1
    have hCi : lastI (cmpV curp a0) = lastI curp := hCl
    have hCf : fromV (cmpV curp a0) ((cmpV curp a0).base + 1) 100 = fromV curp ((cmpV curp a0).base + 1) 100 := by rw [hCb]; exact hC.1.frm hia 100
    have hkc2 := F92.lt
    have hgc2 := F92.gl
    have hBc2 := F92.bl
    refine V.region ?_
    refine V.run T_ok 1 rfl ?_
    refine V.call (base_spec F92) rfl rfl rfl ?_
    rintro _ w101 ⟨rfl, G102⟩
    have z103 := V.Fr.size G102
    try replace F_own := F_own.gr G102
    try replace F_es := F_es.gr G102
    try replace Fk2 := Fk2.gr G102
    try replace F12 := F12.gr G102
    try replace F92 := F92.gr G102
    replace HG := HG.grow G102
    clear G102
    refine V.run T_ok 5 rfl ?_
    refine V.nil ?_
    refine V.tN ?_
    refine V.seq ?_
    refine V.region ?_
    refine V.run T_ok 1 rfl ?_
    refine V.call (last_spec F92) rfl rfl rfl ?_
    rintro _ w104 ⟨rfl, G105⟩
    have z106 := V.Fr.size G105
    try replace F_own := F_own.gr G105
    try replace F_es := F_es.gr G105
    try replace Fk2 := Fk2.gr G105
    try replace F12 := F12.gr G105
    try replace F92 := F92.gr G105
    replace HG := HG.grow G105
    clear G105
    refine V.run T_ok 5 rfl ?_
    refine V.nil ?_
    refine V.tN ?_
    refine V.seq ?_
    refine V.seq ?_
    refine V.region ?_
    refine V.run T_ok 1 rfl ?_
    refine V.elemP T_ok rfl rfl rfl rfl rfl rfl (by first | omega | decide) (by first | omega | decide) ?_
    refine V.loadO T_ok Fk2 rfl rfl rfl rfl rfl ?_
    refine V.run T_ok 2 rfl ?_
    refine V.splitF (j := 4) (t := 121) rfl rfl (by (simp [hCb])) ?_
    refine V.run T_ok 5 rfl ?_
    refine V.splitF (j := 9) (t := 126) rfl rfl (by (simp [hC.2])) ?_
    refine V.run T_ok 5 rfl ?_
    refine V.splitF (j := 14) (t := 131) rfl rfl (by (simp [hCi])) ?_
    refine V.run T_ok 2 rfl ?_
    refine V.yes rfl rfl rfl ?_
    refine V.addN rfl rfl rfl rfl rfl (by first | omega | (simp only [List.length_take, List.length_drop, List.length_append, List.length_cons, List.length_nil, List.length_replicate, List.length_set, V.length_data, V.S_size]; omega)) (by first | omega | (simp only [List.length_take, List.length_drop, List.length_append, List.length_cons, List.length_nil, List.length_replicate, List.length_set, V.length_data, V.S_size]; omega)) ?_
    refine V.yes rfl rfl rfl ?_
    refine V.call (from_spec (i := (((cmpV curp a0).base) + 1)) (most := 100) F92) rfl rfl rfl ?_
    rintro _ w110 ⟨a107, c108, rfl, F109, G111⟩
    have z112 := V.Fr.size G111
    try replace F_own := F_own.gr G111
    try replace F_es := F_es.gr G111
    try replace Fk2 := Fk2.gr G111
    try replace F12 := F12.gr G111
    try replace F92 := F92.gr G111
    replace HG := HG.grow G111
    clear G111
    refine V.run T_ok 2 rfl ?_
    refine V.yes rfl rfl rfl ?_
    refine V.addN rfl rfl rfl rfl rfl (by first | omega | (simp only [List.length_take, List.length_drop, List.length_append, List.length_cons, List.length_nil, List.length_replicate, List.length_set, V.length_data, V.S_size]; omega)) (by first | omega | (simp only [List.length_take, List.length_drop, List.length_append, List.length_cons, List.length_nil, List.length_replicate, List.length_set, V.length_data, V.S_size]; omega)) ?_
    refine V.yes rfl rfl rfl ?_
    refine V.call (from_spec (i := (((cmpV curp a0).base) + 1)) (most := 100) F12) rfl rfl rfl ?_
    rintro _ w116 ⟨a113, c114, rfl, F115, G117⟩
    have z118 := V.Fr.size G117
    try replace F_own := F_own.gr G117
    try replace F_es := F_es.gr G117
    try replace Fk2 := Fk2.gr G117
    try replace F12 := F12.gr G117
    try replace F92 := F92.gr G117
    try replace F109 := F109.gr G117
    replace HG := HG.grow G117
    clear G117
    refine V.yes rfl rfl rfl ?_
    refine V.call (alike_spec (Sl.entOf F109.sl) (Sl.entOf F115.sl)) rfl rfl rfl ?_
    rintro _ w119 ⟨rfl, G120⟩
    have z121 := V.Fr.size G120
    try replace F_own := F_own.gr G120
    try replace F_es := F_es.gr G120
    try replace Fk2 := Fk2.gr G120
    try replace F12 := F12.gr G120
    try replace F92 := F92.gr G120
    try replace F109 := F109.gr G120
    try replace F115 := F115.gr G120
    replace HG := HG.grow G120
    clear G120
    refine V.run T_ok 2 rfl ?_
    refine V.nil ?_
    refine V.tN ?_
    refine V.condN rfl (by (rw [hCf]; simp)) ?_
    refine V.skip ?_
    refine V.tN ?_
    refine V.seq ?_
    refine V.region ?_
    refine V.run T_ok 1 rfl ?_
    refine V.elemP T_ok rfl rfl rfl rfl rfl rfl (by first | omega | decide) (by first | omega | decide) ?_
    refine V.loadO T_ok Fk2 rfl rfl rfl rfl rfl ?_
    refine V.call (term_spec (i := a1) F12) rfl rfl rfl ?_
    rintro _ w122 ⟨rfl, G123⟩
    have z124 := V.Fr.size G123
    try replace F_own := F_own.gr G123
    try replace F_es := F_es.gr G123
    try replace Fk2 := Fk2.gr G123
    try replace F12 := F12.gr G123
    try replace F92 := F92.gr G123
    try replace F109 := F109.gr G123
    try replace F115 := F115.gr G123
    replace HG := HG.grow G123
    clear G123
    refine V.run T_ok 5 rfl ?_
    refine V.nil ?_
    refine V.tN ?_
    refine V.seq ?_
    refine V.seq ?_
    refine V.region ?_
    refine V.run T_ok 3 rfl ?_
    refine V.split (j := 2) (t := 152) rfl rfl (fun g27_2 => ?_) (fun g27_2 => ?_)
    ·
     try replace g27_2 := V.dec g27_2
     try simp only [V.mk0, V.mk1, V.mk2, V.mk3] at g27_2
     refine V.run T_ok 5 rfl ?_
     refine V.nil ?_
     refine V.tN ?_
     refine V.condY rfl rfl ?_
     refine V.seq ?_
     refine V.region ?_
     refine V.call (alive_spec) rfl rfl rfl ?_
     rintro _ w125 ⟨rfl, G126⟩
     have z127 := V.Fr.size G126
     try replace F_own := F_own.gr G126
     try replace F_es := F_es.gr G126
     try replace Fk2 := Fk2.gr G126
     try replace F12 := F12.gr G126
     try replace F92 := F92.gr G126
     try replace F109 := F109.gr G126
     try replace F115 := F115.gr G126
     replace HG := HG.grow G126
     clear G126
     refine V.run T_ok 1 rfl ?_
     refine V.nil ?_
     refine V.tN ?_
     refine V.ret ?_
     refine V.tR ?_
     refine V.done rfl ?_
     exact ⟨(by first | rfl | simp only [List.length_set]), HG⟩
    ·
     try replace g27_2 := V.dec g27_2
     try simp only [V.mk0, V.mk1, V.mk2, V.mk3] at g27_2
     refine V.yes rfl rfl rfl ?_
     refine V.elemP T_ok rfl rfl rfl rfl rfl rfl (by first | omega | decide) (by first | omega | decide) ?_
     refine V.yes rfl rfl rfl ?_
     refine V.loadO T_ok Fk2 rfl rfl rfl rfl rfl ?_
     refine V.run T_ok 3 rfl ?_
     refine V.nil ?_
     refine V.tN ?_
     refine V.condT rfl (fun h27 => ?_) (fun h27 => ?_)
     ·
      try replace h27 := V.dec h27
      try simp only [V.mk0, V.mk1, V.mk2, V.mk3] at h27
      refine V.seq ?_
      refine V.region ?_
      refine V.call (alive_spec) rfl rfl rfl ?_
      rintro _ w128 ⟨rfl, G129⟩
      have z130 := V.Fr.size G129
      try replace F_own := F_own.gr G129
      try replace F_es := F_es.gr G129
      try replace Fk2 := Fk2.gr G129
      try replace F12 := F12.gr G129
      try replace F92 := F92.gr G129
      try replace F109 := F109.gr G129
      try replace F115 := F115.gr G129
      replace HG := HG.grow G129
      clear G129
      refine V.run T_ok 1 rfl ?_
      refine V.nil ?_
      refine V.tN ?_
      refine V.ret ?_
      refine V.tR ?_
      refine V.done rfl ?_
      exact ⟨(by first | rfl | simp only [List.length_set]), HG⟩
     ·
      try replace h27 := V.dec h27
      try simp only [V.mk0, V.mk1, V.mk2, V.mk3] at h27
      refine V.skip ?_
      refine V.tN ?_
      refine V.seq ?_
      have his1 : isV curp a1 = true := by grind
      have hib := isI.1 his1
      have hG := spl_good (es := es) hib rfl
      have hG2 := spl_good (d := (cmpV curp a0)) (prev := a1) (t := trmV curp a1) (es := es) ⟨by omega, by omega⟩ (hC.1.trm hC.2 hia (by omega))
      have hI := hC.1.layI (es := es) hC.2 hia (p := a1) (by omega)
      have hV := hC.1.lay (es := es) hC.2 hia (p := a1) (by omega) hib.2
      have hla := lay_prev (es := es) hib
      have hlb : (layV curp a1 es).base = curp.base := layV_l.1
      refine V.region ?_
      refine V.run T_ok 1 rfl ?_
      refine V.elemP T_ok rfl rfl rfl rfl rfl rfl (by first | omega | decide) (by first | omega | decide) ?_
      refine V.loadO T_ok Fk2 rfl rfl rfl rfl rfl ?_
      refine V.run T_ok 2 rfl ?_
      refine V.call (splice_spec (prev := a1) (t := (trmV curp a1)) F12 F_es (fun k hk => by have := hD_es k hk; omega) (by first | omega | simp | decide) (by first | omega | simp | decide) (by first | assumption | simp)) rfl rfl rfl ?_
      rintro _ w136 ⟨g131, B132, rfl, F133, h134, h135, G137⟩
      have z138 := V.Fr.size G137
      first | replace F_own := F_own.mb G137 hD_own | clear F_own | skip
      first | replace F_es := F_es.mb G137 hD_es | clear F_es | skip
      first | replace Fk2 := Fk2.mv1 G137 (by omega) | clear Fk2 | skip
      first | replace F12 := F12.mv1 G137 (by (try dsimp only [V.In]); first | omega | grind) | clear F12 | skip
      first | replace F92 := F92.mv1 G137 (by (try dsimp only [V.In]); first | omega | grind) | clear F92 | skip
      first | replace F109 := F109.ma G137 | clear F109 | skip
      first | replace F115 := F115.ma G137 | clear F115 | skip
      replace HG := HG.n1 G137
      clear G137
      refine V.run T_ok 5 rfl ?_
      refine V.nil ?_
      refine V.tN ?_
      refine V.seq ?_
      refine V.region ?_
      refine V.run T_ok 1 rfl ?_
      refine V.elemP T_ok rfl rfl rfl rfl rfl rfl (by first | omega | decide) (by first | omega | decide) ?_
      refine V.loadO T_ok Fk2 rfl rfl rfl rfl rfl ?_
      refine V.run T_ok 2 rfl ?_
      refine V.call (splice_spec (prev := a1) (t := (trmV curp a1)) F92 F_es (fun k hk => by have := hD_es k hk; omega) (by first | omega | simp | decide) (by first | omega | simp | decide) (by first | assumption | simp)) rfl rfl rfl ?_
      rintro _ w144 ⟨g139, B140, rfl, F141, h142, h143, G145⟩
      have z146 := V.Fr.size G145
      first | replace F_own := F_own.mb G145 hD_own | clear F_own | skip
      first | replace F_es := F_es.mb G145 hD_es | clear F_es | skip
      first | replace Fk2 := Fk2.mv1 G145 (by omega) | clear Fk2 | skip
      first | replace F92 := F92.mv1 G145 (by (try dsimp only [V.In]); first | omega | grind) | clear F92 | skip
      first | replace F109 := F109.ma G145 | clear F109 | skip
      first | replace F115 := F115.ma G145 | clear F115 | skip
      first | replace F133 := F133.mv1 G145 (by (try dsimp only [V.In]); first | omega | grind) | clear F133 | skip
      replace HG := HG.n1 G145
      clear G145
      refine V.run T_ok 5 rfl ?_
      refine V.nil ?_
      refine V.tN ?_
      refine V.seq ?_
      have hr147 : splV curp a1 (trmV curp a1) es = layV curp a1 es := hG.2.2
      rw [hr147] at F133
      clear hr147
      have hr148 : splV (cmpV curp a0) a1 (trmV curp a1) es = layV (cmpV curp a0) a1 es := hG2.2.2
      rw [hr148] at F141
      clear hr148
      have hFF : fromV (layV (cmpV curp a0) a1 es) ((cmpV curp a0).base + 1) 100 = fromV (layV curp a1 es) ((cmpV curp a0).base + 1) 100 := by rw [hCb]; exact hV.frm (by have := hla.2; omega) 100
      refine V.region ?_
      refine V.call (alive_spec) rfl rfl rfl ?_
      rintro _ w149 ⟨rfl, G150⟩
      have z151 := V.Fr.size G150
      try replace F_own := F_own.gr G150
      try replace F_es := F_es.gr G150
      try replace Fk2 := Fk2.gr G150
      try replace F109 := F109.gr G150
      try replace F115 := F115.gr G150
      try replace F133 := F133.gr G150
      try replace F141 := F141.gr G150
      replace HG := HG.grow G150
      clear G150
      refine V.run T_ok 6 rfl ?_
      refine V.splitT (j := 6) (t := 183) rfl rfl (by (rw [hG.1, hG2.1]; rfl)) ?_
      refine V.run T_ok 5 rfl ?_
      refine V.splitT (j := 11) (t := 188) rfl rfl (by (rw [hG.2.1, hG2.2.1, hI]; simp)) ?_
      refine V.run T_ok 2 rfl ?_
      refine V.yes rfl rfl rfl ?_
      refine V.addN rfl rfl rfl rfl rfl (by first | omega | (simp only [List.length_take, List.length_drop, List.length_append, List.length_cons, List.length_nil, List.length_replicate, List.length_set, V.length_data, V.S_size]; omega)) (by first | omega | (simp only [List.length_take, List.length_drop, List.length_append, List.length_cons, List.length_nil, List.length_replicate, List.length_set, V.length_data, V.S_size]; omega)) ?_
      refine V.yes rfl rfl rfl ?_
      refine V.call (from_spec (i := (((cmpV curp a0).base) + 1)) (most := 100) F141) rfl rfl rfl ?_
      rintro _ w155 ⟨a152, c153, rfl, F154, G156⟩
      have z157 := V.Fr.size G156
      try replace F_own := F_own.gr G156
      try replace F_es := F_es.gr G156
      try replace Fk2 := Fk2.gr G156
      try replace F109 := F109.gr G156
      try replace F115 := F115.gr G156
      try replace F133 := F133.gr G156
      try replace F141 := F141.gr G156
      replace HG := HG.grow G156
      clear G156
      refine V.run T_ok 2 rfl ?_
      refine V.yes rfl rfl rfl ?_
      refine V.addN rfl rfl rfl rfl rfl (by first | omega | (simp only [List.length_take, List.length_drop, List.length_append, List.length_cons, List.length_nil, List.length_replicate, List.length_set, V.length_data, V.S_size]; omega)) (by first | omega | (simp only [List.length_take, List.length_drop, List.length_append, List.length_cons, List.length_nil, List.length_replicate, List.length_set, V.length_data, V.S_size]; omega)) ?_
      refine V.yes rfl rfl rfl ?_
      refine V.call (from_spec (i := (((cmpV curp a0).base) + 1)) (most := 100) F133) rfl rfl rfl ?_
      rintro _ w161 ⟨a158, c159, rfl, F160, G162⟩
      have z163 := V.Fr.size G162
      try replace F_own := F_own.gr G162
      try replace F_es := F_es.gr G162
      try replace Fk2 := Fk2.gr G162
      try replace F109 := F109.gr G162
      try replace F115 := F115.gr G162
      try replace F133 := F133.gr G162
      try replace F141 := F141.gr G162
      try replace F154 := F154.gr G162
      replace HG := HG.grow G162
      clear G162
      refine V.yes rfl rfl rfl ?_
      refine V.call (alike_spec (Sl.entOf F154.sl) (Sl.entOf F160.sl)) rfl rfl rfl ?_
      rintro _ w164 ⟨rfl, G165⟩
      have z166 := V.Fr.size G165
      try replace F_own := F_own.gr G165
      try replace F_es := F_es.gr G165
      try replace Fk2 := Fk2.gr G165
      try replace F109 := F109.gr G165
      try replace F115 := F115.gr G165
      try replace F133 := F133.gr G165
      try replace F141 := F141.gr G165
      try replace F154 := F154.gr G165
      try replace F160 := F160.gr G165
      replace HG := HG.grow G165
      clear G165
      refine V.run T_ok 2 rfl ?_
      refine V.nil ?_
      refine V.tN ?_
      refine V.ret ?_
      refine V.done rfl ?_
      exact ⟨congrArg Value.bool (by rw [hFF]; simp), HG⟩

end Go.Proofs.Ytaekbikdeeaphaa
