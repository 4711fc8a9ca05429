/- Proved here: walks: what functions of this seat's program return and what they leave of memory, each as a contract. Conditions: stated at each theorem. -/
import Derived.Test.YtphohfpbdkgnaaaMraft10
namespace Go.Proofs.Ytphohfpbdkgnaaa
set_option linter.unusedVariables false
set_option linter.unusedSimpArgs false
open Go
open V (Bytes Meets Env Sl Own Gr Fr Cells S)
set_option maxHeartbeats 4000000 in
set_option maxRecDepth 10000 in
theorem kinds_spec {w : World}    :
    Meets Try.prog 40 [] w fun r w' => ∃ (rk1 : Nat), r = .map (some rk1) ∧ V.MapB w' rk1 (Value.int .i64) (V.mput (V.mput (V.mput (V.mput (V.mput [] 1 (.func (.func 52) #[] #[])) 2 (.func (.func 53) #[] #[])) 3 (.func (.func 54) #[] #[])) 4 (.func (.func 55) #[] #[])) 5 (.func (.func 56) #[] #[])) ∧ Gr w w' := by
 have HG := V.Fr.refl [] w
 refine V.enter (n := 3) Try.func40 rfl rfl (by decide) rfl ?_
 refine V.sr ?_
 refine V.ru 1 ?_
 refine V.nt ?_
 refine V.sr ?_
 refine V.mkMap (enc := (Value.int .i64)) rfl rfl rfl ?_
 rintro k1 w3 s5 s6 G4 F2
 have z7 := V.Fr.size G4
 refine V.mapUpd (V.key_int Try.underlying39) (.inr rfl) Try.underlying104 F2 rfl rfl rfl rfl rfl ?_
 rintro w8 G9 z10 Fnew
 clear F2
 have z11 := V.Fr.size G9
 have F2 := Fnew; clear Fnew
 refine V.mapUpd (V.key_int Try.underlying39) (.inr rfl) Try.underlying104 F2 rfl rfl rfl rfl rfl ?_
 rintro w12 G13 z14 Fnew
 clear F2
 have z15 := V.Fr.size G13
 have F2 := Fnew; clear Fnew
 refine V.mapUpd (V.key_int Try.underlying39) (.inr rfl) Try.underlying104 F2 rfl rfl rfl rfl rfl ?_
 rintro w16 G17 z18 Fnew
 clear F2
 have z19 := V.Fr.size G17
 have F2 := Fnew; clear Fnew
 refine V.mapUpd (V.key_int Try.underlying39) (.inr rfl) Try.underlying104 F2 rfl rfl rfl rfl rfl ?_
 rintro w20 G21 z22 Fnew
 clear F2
 have z23 := V.Fr.size G21
 have F2 := Fnew; clear Fnew
 refine V.mapUpd (V.key_int Try.underlying39) (.inr rfl) Try.underlying104 F2 rfl rfl rfl rfl rfl ?_
 rintro w24 G25 z26 Fnew
 clear F2
 have z27 := V.Fr.size G25
 have F2 := Fnew; clear Fnew
 refine V.ru 2 ?_
 refine V.nt ?_
 refine V.ret ?_
 refine V.done rfl ?_
 replace HG := HG.grow G4
 replace HG := HG.n1 G9
 replace HG := HG.n1 G13
 replace HG := HG.n1 G17
 replace HG := HG.n1 G21
 replace HG := HG.n1 G25
 exact ⟨_, (by first | rfl | simp only [List.length_set]), F2, HG⟩


theorem right_parts {d : NodeV} {m : RMsg} (h : rightV d m = true) : (m.to = d.id ∧ ¬ m.fr = d.id ∧ (0 ≤ m.fr ∧ m.fr ≤ 2) ∧ m.rg = d.rg) ∧ (1 ≤ m.kd ∧ m.kd ≤ 5) ∧ ((0 ≤ m.te ∧ m.te ≤ 1099511627776) ∧ (0 ≤ m.ix ∧ m.ix ≤ 1099511627776) ∧ (0 ≤ m.lt ∧ m.lt ≤ 1099511627776) ∧ (0 ≤ m.co ∧ m.co ≤ 1099511627776)) := by
  unfold rightV nmB at h
  simp only [Bool.and_eq_true, decide_eq_true_eq] at h
  omega
theorem rise_eqs (d : NodeV) (m : RMsg) : (riseV d m).out = d.out ∧ (riseV d m).nc = d.nc ∧ (riseV d m).L = d.L ∧ (riseV d m).id = d.id ∧ (riseV d m).rg = d.rg ∧ (riseV d m).co = d.co ∧ (riseV d m).da = d.da := by unfold riseV; split <;> exact ⟨rfl, rfl, rfl, rfl, rfl, rfl, rfl⟩

set_option maxHeartbeats 4000000 in
set_option maxRecDepth 10000 in
theorem step_spec {w : World} {k : Nat} {M D : Nat → Prop} {d : NodeV} (FX : Nd w k M D d) {mg : RMsg} {q0 : Int} {q1 : Int} {q2 : Int} {q3 : Int} {q4 : Int} {q5 : Int} {q6 : Int} {q7 : Int} {q8 : ByteArray} {q9 : Int} {q10 : Int} {q11 : Int} {q12 : ByteArray} {q13 : ByteArray} {q14 : ByteArray} {q15 : Bool} {q16 : Int} {q17 : Int} {q18 : Int} {q19 : Int} {q20 : Bool} {q21 : Bool} {q22a : Option Addr} {q22n q22c : Nat} {q23 : Int} {q24 : Int} {q25 : Int} {q26 : Int} {q27a : Option Addr} {q27n q27c : Nat} {q28 : Bool} {q29 : Int} {q30 : Int} {q31 : ByteArray} {q32 : Int} {q33 : Int} {q34 : Int} {q35 : Int} {q36 : Int} {q37 : Int} {q38 : Int} {q39 : Int} {q40 : Int} {q41a : Option Addr} {q41n q41c : Nat} {D_me : Nat → Prop} {c_me : Nat} {a_me : Option Addr} (F_me : Sl V.Cod.ent w D_me a_me c_me mg.es) (hD_me : ∀ k, D_me k → k < w.heap.size) {D_md : Nat → Prop} {c_md : Nat} {a_md : Option Addr} (F_md : Sl V.Cod.byte w D_md a_md c_md mg.da) (hD_md : ∀ k, D_md k → k < w.heap.size)  (hMe : ∀ j, D_me j → ¬ M j) (hMm : ∀ j, D_md j → ¬ M j) (hs : d.out.length + 3 ≤ 1000000) (hn : d.nc + mg.es.length + 2 ≤ 1000000) (hL : d.L.l.length + mg.es.length + 1 ≤ 1000000) (hb : d.L.base + d.L.l.length + mg.es.length ≤ 2199023255552) (hde : ∀ x ∈ mg.es, x.2.length ≤ 1000000) (hdl : mg.da.length ≤ 1000000) :
    Meets Try.prog 12 [.pointer (some ⟨k, 0, none⟩), .agg #[.int .i64 mg.kd, .int .i64 mg.fr, .int .i64 mg.to, .int .i64 mg.rg, .int .i64 mg.te, .int .i64 mg.ix, .int .i64 mg.lt, .int .i64 mg.co, .bool mg.ok, .slice a_me mg.es.length c_me, .slice a_md mg.da.length c_md, .int .i64 q0, .int .i64 q1, .int .i64 q2, .int .i64 q3, .int .i64 q4, .int .i64 q5, .int .i64 q6, .int .i64 q7, .string q8, .int .i64 q9, .int .i64 q10, .int .i64 q11, .string q12, .string q13, .string q14, .bool q15, .int .i64 q16, .int .i64 q17, .int .i64 q18, .int .i64 q19, .bool q20, .bool q21, .slice q22a q22n q22c, .int .i64 q23, .int .i64 q24, .int .i64 q25, .int .i64 q26, .slice q27a q27n q27c, .bool q28, .int .i64 q29, .int .i64 q30, .string q31, .int .i64 q32, .int .i64 q33, .int .i64 q34, .int .i64 q35, .int .i64 q36, .int .i64 q37, .int .i64 q38, .int .i64 q39, .int .i64 q40, .slice q41a q41n q41c]] w fun r w' => ∃ (rM39 : Nat → Prop) (rD39 : Nat → Prop), r = .int .i64 (if rightV d mg = true then 0 else 181) ∧ Nd w' k rM39 rD39 (stepV d mg) ∧ (∀ j, rM39 j → M j ∨ w.heap.size ≤ j) ∧ (∀ j, rD39 j → D j ∨ M j ∨ w.heap.size ≤ j) ∧ V.FrE M w w' := by
 have hM := FX.lm
 have hk0 := FX.lm _ FX.mk'
 have hD := FX.ld
 have hMD := FX.dj
 have hMk := FX.mk'
 have HG := V.FrE.refl M w
 refine V.enter (n := 34) Try.func12 rfl rfl (by decide) rfl ?_
 refine V.sr ?_
 refine V.box rfl rfl rfl rfl ?_
 rintro k1 w3 s5 s6 G4 Fk2
 have z7 := V.Fr.size G4
 try simp only [V.cellsL, V.spliceL] at Fk2
 refine V.ru 1 ?_
 refine V.nt ?_
 refine V.seq ?_
 refine V.block ?_
 refine V.sr ?_
 refine V.ru 3 ?_
 refine V.nt ?_
 refine V.condN rfl rfl ?_
 refine V.sr ?_
 refine V.ru 1 ?_
 refine V.loadO T_ok Fk2 rfl rfl rfl rfl rfl ?_
 replace FX := FX.gr G4
 replace F_me := F_me.gr G4
 replace F_md := F_md.gr G4
 refine V.call (right_spec (mg := mg) FX F_me (by intro k h; (try dsimp only [V.In] at h ⊢); first | omega | grind) F_md (by intro k h; (try dsimp only [V.In] at h ⊢); first | omega | grind)) rfl rfl rfl ?_
 rintro _ w8 ⟨rfl, G9⟩
 have z10 := V.Fr.size G9
 refine V.ru 2 ?_
 refine V.nt ?_
 refine V.condT rfl (fun h3 => ?_) (fun h3 => ?_)
 ·
  try replace h3 := V.dec h3
  try simp only [V.mk] at h3
  have hr : ¬ rightV d mg = true := by (have h3b := h3; simpa using h3b)
  refine V.sr ?_
  refine V.ru 1 ?_
  refine V.nt ?_
  refine V.ret ?_
  refine V.bR ?_
  refine V.tR ?_
  rw [show stepV d mg = d from if_neg hr, if_neg hr]
  refine V.done rfl ?_
  replace FX := FX.gr G9
  replace HG := HG.grow (G4.trans G9)
  exact ⟨_, _, (by first | rfl | simp only [List.length_set]), FX, (by intro j h; (try dsimp only [V.In] at *); grind), (by intro j h; (try dsimp only [V.In] at *); grind), HG⟩
 ·
  try replace h3 := V.dec h3
  try simp only [V.mk] at h3
  have hr : rightV d mg = true := by (have h3b := h3; simpa using h3b)
  obtain ⟨⟨hp1, hp2, hp3, hp4⟩, hp5, hp6, hp7, hp8, hp9⟩ := right_parts hr
  refine V.skip ?_
  refine V.bN ?_
  refine V.tN ?_
  replace FX := FX.gr G9
  replace F_me := F_me.gr G9
  replace F_md := F_md.gr G9
  replace Fk2 := Fk2.gr G9
  replace HG := HG.grow (G4.trans G9)
  refine V.seqJ (fun e v12 => V.FrE M w v12 ∧ w8.heap.size ≤ v12.heap.size ∧ Sl V.Cod.ent v12 D_me a_me c_me mg.es ∧ Sl V.Cod.byte v12 D_md a_md c_md mg.da ∧ Cells v12 k1 [.int .i64 mg.kd, .int .i64 mg.fr, .int .i64 mg.to, .int .i64 mg.rg, .int .i64 mg.te, .int .i64 mg.ix, .int .i64 mg.lt, .int .i64 mg.co, .bool mg.ok, .slice a_me mg.es.length c_me, .slice a_md mg.da.length c_md, .int .i64 q0, .int .i64 q1, .int .i64 q2, .int .i64 q3, .int .i64 q4, .int .i64 q5, .int .i64 q6, .int .i64 q7, .string q8, .int .i64 q9, .int .i64 q10, .int .i64 q11, .string q12, .string q13, .string q14, .bool q15, .int .i64 q16, .int .i64 q17, .int .i64 q18, .int .i64 q19, .bool q20, .bool q21, .slice q22a q22n q22c, .int .i64 q23, .int .i64 q24, .int .i64 q25, .int .i64 q26, .slice q27a q27n q27c, .bool q28, .int .i64 q29, .int .i64 q30, .string q31, .int .i64 q32, .int .i64 q33, .int .i64 q34, .int .i64 q35, .int .i64 q36, .int .i64 q37, .int .i64 q38, .int .i64 q39, .int .i64 q40, .slice q41a q41n q41c] 57 ∧ Nd v12 k M D (riseV d mg) ∧ e 0 = .pointer (some ⟨k, 0, none⟩) ∧ e 3 = .pointer (some ⟨k1, 0, none⟩) ∧ True) ?_ ?_
  ·
   refine V.seq ?_
   obtain ⟨kl_13, g_13, B_13, SO_13, SC_13, ad_13, cd_13, ao_13, co_13, ac_13, cc_13, ch_13, hP_13, hc_13, Fk_13, FL_13, FQ_13⟩ := FX.ex
   obtain ⟨hid_13, hrg_13, hte_13, hco_13, hx0_13, hx1_13, hx2_13, hm0_13, hm1_13, hm2_13, hda_13⟩ := FX.ok
   have nk_13 := hP_13.nk
   have nl_13 := hP_13.nl
   have ng_13 := hP_13.ng
   have kL_13 := hP_13.kL
   have lq_13 := hP_13.lq
   have bd_13 := hP_13.d
   obtain ⟨mk_13, ml_13, mg_13⟩ := hP_13.m
   have hA_13 := hP_13.a
   have lm_13 := hP_13.lm
   have ld_13 := hP_13.ld
   have hLo_13 := FL_13.ok
   have hLd_13 := FL_13.dl
   have hLg_13 := FL_13.gl
   have hLk_13 := FL_13.lt
   have hLb_13 := FL_13.bl
   have hkl_13 := Fk_13.lt
   refine V.drawQ mixed (by kernel_rfl) ?_
   refine V.qrun T_ok 1 rfl ?_
   refine V.qloadO T_ok Fk2 rfl rfl rfl rfl rfl ?_
   refine V.qrun T_ok 3 rfl ?_
   refine V.qloadO T_ok Fk_13 rfl rfl rfl rfl rfl ?_
   refine V.qrun T_ok 1 rfl ?_
   refine V.qnil ?_
   rintro w14 G15
   have z16 := V.Fr.size G15
   refine V.tN ?_
   refine V.condT rfl (fun h5 => ?_) (fun h5 => ?_)
   ·
    try replace h5 := V.dec h5
    try simp only [V.mk] at h5
    
    refine V.sr ?_
    refine V.ru 2 ?_
    replace Fk2 := Fk2.gr G15
    refine V.loadO T_ok Fk2 rfl rfl rfl rfl rfl ?_
    replace FX := FX.gr G15
    refine V.call (turn_spec (te := mg.te) (ro := 0) (le := (-1)) FX (by omega)) rfl rfl rfl ?_
    rintro _ w18 ⟨rfl, F17, G19⟩
    have z20 := V.FrE.size G19
    refine V.nt ?_
    obtain ⟨kl_21, g_21, B_21, SO_21, SC_21, ad_21, cd_21, ao_21, co_21, ac_21, cc_21, ch_21, hP_21, hc_21, Fk_21, FL_21, FQ_21⟩ := F17.ex
    obtain ⟨hid_21, hrg_21, hte_21, hco_21, hx0_21, hx1_21, hx2_21, hm0_21, hm1_21, hm2_21, hda_21⟩ := F17.ok
    try dsimp only [turnV] at hid_21 hrg_21 hte_21 hco_21 hx0_21 hx1_21 hx2_21 hm0_21 hm1_21 hm2_21 hda_21
    have nk_21 := hP_21.nk
    have nl_21 := hP_21.nl
    have ng_21 := hP_21.ng
    have kL_21 := hP_21.kL
    have lq_21 := hP_21.lq
    have bd_21 := hP_21.d
    obtain ⟨mk_21, ml_21, mg_21⟩ := hP_21.m
    have hA_21 := hP_21.a
    have lm_21 := hP_21.lm
    have ld_21 := hP_21.ld
    have hLo_21 := FL_21.ok
    have hLd_21 := FL_21.dl
    have hLg_21 := FL_21.gl
    have hLk_21 := FL_21.lt
    have hLb_21 := FL_21.bl
    have hkl_21 := Fk_21.lt
    clear F17
    refine V.region ?_
    refine V.ru 3 ?_
    refine V.storeO Fk_21 rfl rfl rfl rfl sz3 rfl rfl rfl rfl ?_
    rintro w22 G23 z25 Fs24
    clear Fk_21
    have z26 := V.Fr.size G23
    have Fk_21 := Fs24; clear Fs24
    simp only [V.spliceL, V.cellsL] at Fk_21
    refine V.nt ?_
    replace FL_21 := FL_21.mv1 G23 (by (try dsimp only [V.In]); first | omega | grind)
    replace FQ_21 := FQ_21.mv1 G23 (by (try dsimp only [V.In]); first | omega | grind)
    have F27 : Nd w22 k M D ({ turnV d mg.te 0 (-1) with vo := -1 }) := ⟨⟨hid_21, hrg_21, hte_21, hco_21, hx0_21, hx1_21, hx2_21, hm0_21, hm1_21, hm2_21, hda_21⟩, _, _, _, _, _, _, _, _, _, _, _, _, (hP_21.up (by omega)), hc_21, Fk_21, FL_21, FQ_21⟩
    clear Fk_21 FL_21 FQ_21
    have hr28 : { turnV d mg.te 0 (-1) with vo := -1 } = riseV d mg := (if_pos h5).symm
    rw [hr28] at F27
    clear hr28
    replace F_me := F_me.gr G15
    replace F_me := F_me.mvE G19 (by intro j h hd; (try dsimp only [V.In] at h hd ⊢); first | omega | grind)
    replace F_me := F_me.mv1 G23 (by (try dsimp only [V.In]); first | omega | grind)
    replace F_md := F_md.gr G15
    replace F_md := F_md.mvE G19 (by intro j h hd; (try dsimp only [V.In] at h hd ⊢); first | omega | grind)
    replace F_md := F_md.mv1 G23 (by (try dsimp only [V.In]); first | omega | grind)
    replace Fk2 := Fk2.mvE G19 (by (try dsimp only [V.In]); first | omega | grind)
    replace Fk2 := Fk2.ma G23
    replace HG := HG.grow G15
    replace HG := HG.stepE G19 (by intro i h; (try dsimp only [V.In] at h ⊢); first | omega | grind)
    replace HG := HG.n1 G23 (by first | (refine Or.inr ?_; omega) | (refine Or.inl ?_; first | assumption | (dsimp only; grind)) | grind)
    exact ⟨HG, (by omega), F_me, F_md, Fk2, F27, rfl, rfl, trivial⟩
   ·
    try replace h5 := V.dec h5
    try simp only [V.mk] at h5
    
    refine V.skip ?_
    refine V.tN ?_
    have hr29 : d = riseV d mg := (if_neg (by have h5b := h5; first | exact h5b | exact Int.not_lt.2 h5b)).symm
    replace FX := FX.gr G15
    rw [hr29] at FX
    clear hr29
    replace F_me := F_me.gr G15
    replace F_md := F_md.gr G15
    replace Fk2 := Fk2.gr G15
    replace HG := HG.grow G15
    exact ⟨HG, (by omega), F_me, F_md, Fk2, FX, rfl, rfl, trivial⟩
  clear HG F_me F_md Fk2
  try clear FX
  rintro e v12 ⟨HG, z30, F_me, F_md, Fk2, FJ, hjn11_0, hjn11_3, -⟩
  refine V.knownC (t := 0) hjn11_0 ?_
  refine V.knownC (t := 3) hjn11_3 ?_
  refine V.seq ?_
  rcases (show mg.kd = 1 ∨ mg.kd = 2 ∨ mg.kd = 3 ∨ mg.kd = 4 ∨ mg.kd = 5 by omega) with hkd | hkd | hkd | hkd | hkd
  ·
   obtain ⟨er1, er2, er3, er4, er5, er6, er7⟩ := rise_eqs d mg
   have hs3 : (riseV d mg).out.length + 3 ≤ 1000000 := by rw [er1]; exact hs
   have hs1 : (riseV d mg).out.length + 1 ≤ 1000000 := by rw [er1]; omega
   have hn1 : (riseV d mg).nc + 1 ≤ 1000000 := by rw [er2]; omega
   have hn2 : (riseV d mg).nc + 2 ≤ 1000000 := by rw [er2]; omega
   have hn3 : (riseV d mg).nc + mg.es.length + 2 ≤ 1000000 := by rw [er2]; exact hn
   have hl1 : (riseV d mg).L.l.length + 1 ≤ 1000000 := by rw [er3]; omega
   have hl2 : (riseV d mg).L.l.length + mg.es.length ≤ 1000000 := by rw [er3]; omega
   have hl3 : (riseV d mg).L.base + (riseV d mg).L.l.length + mg.es.length ≤ 2199023255552 := by rw [er3]; exact hb
   refine V.drawGT 6 (V.sel [(0, (fun v wz => ∃ (rk1 : Nat), v = .map (some rk1) ∧ V.MapB wz rk1 (Value.int .i64) (V.mput (V.mput (V.mput (V.mput (V.mput [] 1 (.func (.func 52) #[] #[])) 2 (.func (.func 53) #[] #[])) 3 (.func (.func 54) #[] #[])) 4 (.func (.func 55) #[] #[])) 5 (.func (.func 56) #[] #[]))))]) mixed (by kernel_rfl) (V.mono_cons (by rintro v wz wz' g ⟨rk1, rfl, rF1⟩; exact ⟨rk1, rfl, (by first | exact (rF1.gr g).mono (V.In.sub (Nat.le_refl _) g.size) | exact rF1.gr g | exact (rF1.gr g).mono (fun _ h => h) (Nat.le_refl _) g.size | exact (rF1.gr g).mono (fun k h => ⟨h.1, Nat.lt_of_lt_of_le h.2 g.size⟩))⟩) V.mono_nil) ?_
   refine V.gcall (fun w' h => kinds_spec.mono (by rintro v w'' ⟨rk1, rfl, rF1, G⟩; exact ⟨⟨rk1, rfl, (by first | exact rF1.mono (V.In.mono_l h.1.size) | exact rF1 | exact rF1.mono (fun _ h => h) h.1.size (Nat.le_refl _))⟩, G⟩)) rfl rfl rfl rfl ?_
   rintro _ w33 - - ⟨k31, rfl, -⟩
   refine V.grun T_ok 1 rfl (V.sel_none rfl) ?_
   have Fc34 := Fk2
   rw [hkd] at Fc34
   refine V.gloadO T_ok (fun w' h => Fc34.gr h.1) rfl rfl rfl rfl rfl rfl ?_
   refine V.gstep rfl rfl rfl (fun w' h => V.look_run (V.key_int Try.underlying39) rfl Try.underlying104 zero103 (by obtain ⟨_, he, F0⟩ := (V.Hist.here (h.get (i := 0) rfl)); cases he; exact F0) rfl rfl) ?_
   refine V.grun T_ok 1 rfl (V.sel_none rfl) ?_
   refine V.gloadO T_ok (fun w' h => Fk2.gr h.1) rfl rfl rfl rfl rfl rfl ?_
   refine V.gnil ?_
   rintro w35 G36 hH37
   have z38 := V.Fr.size G36
   have F32 : V.MapB w35 k31 (Value.int .i64) (V.mput (V.mput (V.mput (V.mput (V.mput [] 1 (.func (.func 52) #[] #[])) 2 (.func (.func 53) #[] #[])) 3 (.func (.func 54) #[] #[])) 4 (.func (.func 55) #[] #[])) 5 (.func (.func 56) #[] #[])) := by
     obtain ⟨_, he, F0⟩ := (V.Hist.here (hH37 0))
     cases he
     exact F0
   clear hH37
   replace F_me := F_me.gr G36
   replace F_md := F_md.gr G36
   replace FJ := FJ.gr G36
   refine V.call (asked_spec (mg := mg) FJ F_me (by intro k h; (try dsimp only [V.In] at h ⊢); first | omega | grind) F_md (by intro k h; (try dsimp only [V.In] at h ⊢); first | omega | grind) (by intro j h; first | exact h.elim | (have a1 := hM j; (try dsimp only [V.In] at h); grind)) (by intro j h; first | exact h.elim | (have a1 := hM j; (try dsimp only [V.In] at h); grind)) (by first | assumption | omega)) rfl rfl rfl ?_
   rintro _ w44 ⟨M39, D40, rfl, F41, h42, h43, G45⟩
   have z46 := V.FrE.size G45
   refine V.nt ?_
   refine V.sr ?_
   refine V.ru 1 ?_
   refine V.nt ?_
   refine V.ret ?_
   rw [show stepV d mg = askedV (riseV d mg) mg from by (unfold stepV; rw [if_pos hr]; rw [if_pos hkd]), if_pos hr]
   refine V.done rfl ?_
   replace HG := HG.grow G36
   replace HG := HG.stepE G45 (by intro i h; (try dsimp only [V.In] at h ⊢); first | omega | grind)
   exact ⟨_, _, (by first | rfl | simp only [List.length_set]), F41, (by intro j h; (try dsimp only [V.In] at *); grind), (by intro j h; (try dsimp only [V.In] at *); grind), HG⟩
  ·
   obtain ⟨er1, er2, er3, er4, er5, er6, er7⟩ := rise_eqs d mg
   have hs3 : (riseV d mg).out.length + 3 ≤ 1000000 := by rw [er1]; exact hs
   have hs1 : (riseV d mg).out.length + 1 ≤ 1000000 := by rw [er1]; omega
   have hn1 : (riseV d mg).nc + 1 ≤ 1000000 := by rw [er2]; omega
   have hn2 : (riseV d mg).nc + 2 ≤ 1000000 := by rw [er2]; omega
   have hn3 : (riseV d mg).nc + mg.es.length + 2 ≤ 1000000 := by rw [er2]; exact hn
   have hl1 : (riseV d mg).L.l.length + 1 ≤ 1000000 := by rw [er3]; omega
   have hl2 : (riseV d mg).L.l.length + mg.es.length ≤ 1000000 := by rw [er3]; omega
   have hl3 : (riseV d mg).L.base + (riseV d mg).L.l.length + mg.es.length ≤ 2199023255552 := by rw [er3]; exact hb
   refine V.drawGT 6 (V.sel [(0, (fun v wz => ∃ (rk1 : Nat), v = .map (some rk1) ∧ V.MapB wz rk1 (Value.int .i64) (V.mput (V.mput (V.mput (V.mput (V.mput [] 1 (.func (.func 52) #[] #[])) 2 (.func (.func 53) #[] #[])) 3 (.func (.func 54) #[] #[])) 4 (.func (.func 55) #[] #[])) 5 (.func (.func 56) #[] #[]))))]) mixed (by kernel_rfl) (V.mono_cons (by rintro v wz wz' g ⟨rk1, rfl, rF1⟩; exact ⟨rk1, rfl, (by first | exact (rF1.gr g).mono (V.In.sub (Nat.le_refl _) g.size) | exact rF1.gr g | exact (rF1.gr g).mono (fun _ h => h) (Nat.le_refl _) g.size | exact (rF1.gr g).mono (fun k h => ⟨h.1, Nat.lt_of_lt_of_le h.2 g.size⟩))⟩) V.mono_nil) ?_
   refine V.gcall (fun w' h => kinds_spec.mono (by rintro v w'' ⟨rk1, rfl, rF1, G⟩; exact ⟨⟨rk1, rfl, (by first | exact rF1.mono (V.In.mono_l h.1.size) | exact rF1 | exact rF1.mono (fun _ h => h) h.1.size (Nat.le_refl _))⟩, G⟩)) rfl rfl rfl rfl ?_
   rintro _ w49 - - ⟨k47, rfl, -⟩
   refine V.grun T_ok 1 rfl (V.sel_none rfl) ?_
   have Fc50 := Fk2
   rw [hkd] at Fc50
   refine V.gloadO T_ok (fun w' h => Fc50.gr h.1) rfl rfl rfl rfl rfl rfl ?_
   refine V.gstep rfl rfl rfl (fun w' h => V.look_run (V.key_int Try.underlying39) rfl Try.underlying104 zero103 (by obtain ⟨_, he, F0⟩ := (V.Hist.here (h.get (i := 0) rfl)); cases he; exact F0) rfl rfl) ?_
   refine V.grun T_ok 1 rfl (V.sel_none rfl) ?_
   refine V.gloadO T_ok (fun w' h => Fk2.gr h.1) rfl rfl rfl rfl rfl rfl ?_
   refine V.gnil ?_
   rintro w51 G52 hH53
   have z54 := V.Fr.size G52
   have F48 : V.MapB w51 k47 (Value.int .i64) (V.mput (V.mput (V.mput (V.mput (V.mput [] 1 (.func (.func 52) #[] #[])) 2 (.func (.func 53) #[] #[])) 3 (.func (.func 54) #[] #[])) 4 (.func (.func 55) #[] #[])) 5 (.func (.func 56) #[] #[])) := by
     obtain ⟨_, he, F0⟩ := (V.Hist.here (hH53 0))
     cases he
     exact F0
   clear hH53
   replace F_me := F_me.gr G52
   replace F_md := F_md.gr G52
   replace FJ := FJ.gr G52
   refine V.call (voted_spec (mg := mg) FJ F_me (by intro k h; (try dsimp only [V.In] at h ⊢); first | omega | grind) F_md (by intro k h; (try dsimp only [V.In] at h ⊢); first | omega | grind) (by intro j h; first | exact h.elim | (have a1 := hM j; (try dsimp only [V.In] at h); grind)) (by intro j h; first | exact h.elim | (have a1 := hM j; (try dsimp only [V.In] at h); grind)) (by first | assumption | omega) (by first | assumption | omega) (by first | assumption | omega) (by first | assumption | omega)) rfl rfl rfl ?_
   rintro _ w60 ⟨M55, D56, rfl, F57, h58, h59, G61⟩
   have z62 := V.FrE.size G61
   refine V.nt ?_
   refine V.sr ?_
   refine V.ru 1 ?_
   refine V.nt ?_
   refine V.ret ?_
   rw [show stepV d mg = votedV (riseV d mg) mg from by (unfold stepV; rw [if_pos hr]; rw [if_neg (show ¬ mg.kd = 1 by omega)]; rw [if_pos hkd]), if_pos hr]
   refine V.done rfl ?_
   replace HG := HG.grow G52
   replace HG := HG.stepE G61 (by intro i h; (try dsimp only [V.In] at h ⊢); first | omega | grind)
   exact ⟨_, _, (by first | rfl | simp only [List.length_set]), F57, (by intro j h; (try dsimp only [V.In] at *); grind), (by intro j h; (try dsimp only [V.In] at *); grind), HG⟩
  ·
   obtain ⟨er1, er2, er3, er4, er5, er6, er7⟩ := rise_eqs d mg
   have hs3 : (riseV d mg).out.length + 3 ≤ 1000000 := by rw [er1]; exact hs
   have hs1 : (riseV d mg).out.length + 1 ≤ 1000000 := by rw [er1]; omega
   have hn1 : (riseV d mg).nc + 1 ≤ 1000000 := by rw [er2]; omega
   have hn2 : (riseV d mg).nc + 2 ≤ 1000000 := by rw [er2]; omega
   have hn3 : (riseV d mg).nc + mg.es.length + 2 ≤ 1000000 := by rw [er2]; exact hn
   have hl1 : (riseV d mg).L.l.length + 1 ≤ 1000000 := by rw [er3]; omega
   have hl2 : (riseV d mg).L.l.length + mg.es.length ≤ 1000000 := by rw [er3]; omega
   have hl3 : (riseV d mg).L.base + (riseV d mg).L.l.length + mg.es.length ≤ 2199023255552 := by rw [er3]; exact hb
   refine V.drawGT 6 (V.sel [(0, (fun v wz => ∃ (rk1 : Nat), v = .map (some rk1) ∧ V.MapB wz rk1 (Value.int .i64) (V.mput (V.mput (V.mput (V.mput (V.mput [] 1 (.func (.func 52) #[] #[])) 2 (.func (.func 53) #[] #[])) 3 (.func (.func 54) #[] #[])) 4 (.func (.func 55) #[] #[])) 5 (.func (.func 56) #[] #[]))))]) mixed (by kernel_rfl) (V.mono_cons (by rintro v wz wz' g ⟨rk1, rfl, rF1⟩; exact ⟨rk1, rfl, (by first | exact (rF1.gr g).mono (V.In.sub (Nat.le_refl _) g.size) | exact rF1.gr g | exact (rF1.gr g).mono (fun _ h => h) (Nat.le_refl _) g.size | exact (rF1.gr g).mono (fun k h => ⟨h.1, Nat.lt_of_lt_of_le h.2 g.size⟩))⟩) V.mono_nil) ?_
   refine V.gcall (fun w' h => kinds_spec.mono (by rintro v w'' ⟨rk1, rfl, rF1, G⟩; exact ⟨⟨rk1, rfl, (by first | exact rF1.mono (V.In.mono_l h.1.size) | exact rF1 | exact rF1.mono (fun _ h => h) h.1.size (Nat.le_refl _))⟩, G⟩)) rfl rfl rfl rfl ?_
   rintro _ w65 - - ⟨k63, rfl, -⟩
   refine V.grun T_ok 1 rfl (V.sel_none rfl) ?_
   have Fc66 := Fk2
   rw [hkd] at Fc66
   refine V.gloadO T_ok (fun w' h => Fc66.gr h.1) rfl rfl rfl rfl rfl rfl ?_
   refine V.gstep rfl rfl rfl (fun w' h => V.look_run (V.key_int Try.underlying39) rfl Try.underlying104 zero103 (by obtain ⟨_, he, F0⟩ := (V.Hist.here (h.get (i := 0) rfl)); cases he; exact F0) rfl rfl) ?_
   refine V.grun T_ok 1 rfl (V.sel_none rfl) ?_
   refine V.gloadO T_ok (fun w' h => Fk2.gr h.1) rfl rfl rfl rfl rfl rfl ?_
   refine V.gnil ?_
   rintro w67 G68 hH69
   have z70 := V.Fr.size G68
   have F64 : V.MapB w67 k63 (Value.int .i64) (V.mput (V.mput (V.mput (V.mput (V.mput [] 1 (.func (.func 52) #[] #[])) 2 (.func (.func 53) #[] #[])) 3 (.func (.func 54) #[] #[])) 4 (.func (.func 55) #[] #[])) 5 (.func (.func 56) #[] #[])) := by
     obtain ⟨_, he, F0⟩ := (V.Hist.here (hH69 0))
     cases he
     exact F0
   clear hH69
   replace F_me := F_me.gr G68
   replace F_md := F_md.gr G68
   replace FJ := FJ.gr G68
   refine V.call (apn_spec (mg := mg) FJ F_me (by intro k h; (try dsimp only [V.In] at h ⊢); first | omega | grind) F_md (by intro k h; (try dsimp only [V.In] at h ⊢); first | omega | grind) (by intro j h; first | exact h.elim | (have a1 := hM j; (try dsimp only [V.In] at h); grind)) (by intro j h; first | exact h.elim | (have a1 := hM j; (try dsimp only [V.In] at h); grind)) (by first | assumption | omega) (by first | assumption | omega) (by first | assumption | omega) (by first | assumption | omega) (by first | assumption | omega) (by first | assumption | omega) (by first | assumption | omega) (by first | assumption | omega)) rfl rfl rfl ?_
   rintro _ w76 ⟨M71, D72, rfl, F73, h74, h75, G77⟩
   have z78 := V.FrE.size G77
   refine V.nt ?_
   refine V.sr ?_
   refine V.ru 1 ?_
   refine V.nt ?_
   refine V.ret ?_
   rw [show stepV d mg = apnV (riseV d mg) mg from by (unfold stepV; rw [if_pos hr]; rw [if_neg (show ¬ mg.kd = 1 by omega)]; rw [if_neg (show ¬ mg.kd = 2 by omega)]; rw [if_pos hkd]), if_pos hr]
   refine V.done rfl ?_
   replace HG := HG.grow G68
   replace HG := HG.stepE G77 (by intro i h; (try dsimp only [V.In] at h ⊢); first | omega | grind)
   exact ⟨_, _, (by first | rfl | simp only [List.length_set]), F73, (by intro j h; (try dsimp only [V.In] at *); grind), (by intro j h; (try dsimp only [V.In] at *); grind), HG⟩
  ·
   obtain ⟨er1, er2, er3, er4, er5, er6, er7⟩ := rise_eqs d mg
   have hs3 : (riseV d mg).out.length + 3 ≤ 1000000 := by rw [er1]; exact hs
   have hs1 : (riseV d mg).out.length + 1 ≤ 1000000 := by rw [er1]; omega
   have hn1 : (riseV d mg).nc + 1 ≤ 1000000 := by rw [er2]; omega
   have hn2 : (riseV d mg).nc + 2 ≤ 1000000 := by rw [er2]; omega
   have hn3 : (riseV d mg).nc + mg.es.length + 2 ≤ 1000000 := by rw [er2]; exact hn
   have hl1 : (riseV d mg).L.l.length + 1 ≤ 1000000 := by rw [er3]; omega
   have hl2 : (riseV d mg).L.l.length + mg.es.length ≤ 1000000 := by rw [er3]; omega
   have hl3 : (riseV d mg).L.base + (riseV d mg).L.l.length + mg.es.length ≤ 2199023255552 := by rw [er3]; exact hb
   refine V.drawGT 6 (V.sel [(0, (fun v wz => ∃ (rk1 : Nat), v = .map (some rk1) ∧ V.MapB wz rk1 (Value.int .i64) (V.mput (V.mput (V.mput (V.mput (V.mput [] 1 (.func (.func 52) #[] #[])) 2 (.func (.func 53) #[] #[])) 3 (.func (.func 54) #[] #[])) 4 (.func (.func 55) #[] #[])) 5 (.func (.func 56) #[] #[]))))]) mixed (by kernel_rfl) (V.mono_cons (by rintro v wz wz' g ⟨rk1, rfl, rF1⟩; exact ⟨rk1, rfl, (by first | exact (rF1.gr g).mono (V.In.sub (Nat.le_refl _) g.size) | exact rF1.gr g | exact (rF1.gr g).mono (fun _ h => h) (Nat.le_refl _) g.size | exact (rF1.gr g).mono (fun k h => ⟨h.1, Nat.lt_of_lt_of_le h.2 g.size⟩))⟩) V.mono_nil) ?_
   refine V.gcall (fun w' h => kinds_spec.mono (by rintro v w'' ⟨rk1, rfl, rF1, G⟩; exact ⟨⟨rk1, rfl, (by first | exact rF1.mono (V.In.mono_l h.1.size) | exact rF1 | exact rF1.mono (fun _ h => h) h.1.size (Nat.le_refl _))⟩, G⟩)) rfl rfl rfl rfl ?_
   rintro _ w81 - - ⟨k79, rfl, -⟩
   refine V.grun T_ok 1 rfl (V.sel_none rfl) ?_
   have Fc82 := Fk2
   rw [hkd] at Fc82
   refine V.gloadO T_ok (fun w' h => Fc82.gr h.1) rfl rfl rfl rfl rfl rfl ?_
   refine V.gstep rfl rfl rfl (fun w' h => V.look_run (V.key_int Try.underlying39) rfl Try.underlying104 zero103 (by obtain ⟨_, he, F0⟩ := (V.Hist.here (h.get (i := 0) rfl)); cases he; exact F0) rfl rfl) ?_
   refine V.grun T_ok 1 rfl (V.sel_none rfl) ?_
   refine V.gloadO T_ok (fun w' h => Fk2.gr h.1) rfl rfl rfl rfl rfl rfl ?_
   refine V.gnil ?_
   rintro w83 G84 hH85
   have z86 := V.Fr.size G84
   have F80 : V.MapB w83 k79 (Value.int .i64) (V.mput (V.mput (V.mput (V.mput (V.mput [] 1 (.func (.func 52) #[] #[])) 2 (.func (.func 53) #[] #[])) 3 (.func (.func 54) #[] #[])) 4 (.func (.func 55) #[] #[])) 5 (.func (.func 56) #[] #[])) := by
     obtain ⟨_, he, F0⟩ := (V.Hist.here (hH85 0))
     cases he
     exact F0
   clear hH85
   replace F_me := F_me.gr G84
   replace F_md := F_md.gr G84
   replace FJ := FJ.gr G84
   refine V.call (apd_spec (mg := mg) FJ F_me (by intro k h; (try dsimp only [V.In] at h ⊢); first | omega | grind) F_md (by intro k h; (try dsimp only [V.In] at h ⊢); first | omega | grind) (by intro j h; first | exact h.elim | (have a1 := hM j; (try dsimp only [V.In] at h); grind)) (by intro j h; first | exact h.elim | (have a1 := hM j; (try dsimp only [V.In] at h); grind)) (by first | assumption | omega) (by first | assumption | omega) (by first | assumption | omega)) rfl rfl rfl ?_
   rintro _ w92 ⟨M87, D88, rfl, F89, h90, h91, G93⟩
   have z94 := V.FrE.size G93
   refine V.nt ?_
   refine V.sr ?_
   refine V.ru 1 ?_
   refine V.nt ?_
   refine V.ret ?_
   rw [show stepV d mg = apdV (riseV d mg) mg from by (unfold stepV; rw [if_pos hr]; rw [if_neg (show ¬ mg.kd = 1 by omega)]; rw [if_neg (show ¬ mg.kd = 2 by omega)]; rw [if_neg (show ¬ mg.kd = 3 by omega)]; rw [if_pos hkd]), if_pos hr]
   refine V.done rfl ?_
   replace HG := HG.grow G84
   replace HG := HG.stepE G93 (by intro i h; (try dsimp only [V.In] at h ⊢); first | omega | grind)
   exact ⟨_, _, (by first | rfl | simp only [List.length_set]), F89, (by intro j h; (try dsimp only [V.In] at *); grind), (by intro j h; (try dsimp only [V.In] at *); grind), HG⟩
  ·
   obtain ⟨er1, er2, er3, er4, er5, er6, er7⟩ := rise_eqs d mg
   have hs3 : (riseV d mg).out.length + 3 ≤ 1000000 := by rw [er1]; exact hs
   have hs1 : (riseV d mg).out.length + 1 ≤ 1000000 := by rw [er1]; omega
   have hn1 : (riseV d mg).nc + 1 ≤ 1000000 := by rw [er2]; omega
   have hn2 : (riseV d mg).nc + 2 ≤ 1000000 := by rw [er2]; omega
   have hn3 : (riseV d mg).nc + mg.es.length + 2 ≤ 1000000 := by rw [er2]; exact hn
   have hl1 : (riseV d mg).L.l.length + 1 ≤ 1000000 := by rw [er3]; omega
   have hl2 : (riseV d mg).L.l.length + mg.es.length ≤ 1000000 := by rw [er3]; omega
   have hl3 : (riseV d mg).L.base + (riseV d mg).L.l.length + mg.es.length ≤ 2199023255552 := by rw [er3]; exact hb
   refine V.drawGT 6 (V.sel [(0, (fun v wz => ∃ (rk1 : Nat), v = .map (some rk1) ∧ V.MapB wz rk1 (Value.int .i64) (V.mput (V.mput (V.mput (V.mput (V.mput [] 1 (.func (.func 52) #[] #[])) 2 (.func (.func 53) #[] #[])) 3 (.func (.func 54) #[] #[])) 4 (.func (.func 55) #[] #[])) 5 (.func (.func 56) #[] #[]))))]) mixed (by kernel_rfl) (V.mono_cons (by rintro v wz wz' g ⟨rk1, rfl, rF1⟩; exact ⟨rk1, rfl, (by first | exact (rF1.gr g).mono (V.In.sub (Nat.le_refl _) g.size) | exact rF1.gr g | exact (rF1.gr g).mono (fun _ h => h) (Nat.le_refl _) g.size | exact (rF1.gr g).mono (fun k h => ⟨h.1, Nat.lt_of_lt_of_le h.2 g.size⟩))⟩) V.mono_nil) ?_
   refine V.gcall (fun w' h => kinds_spec.mono (by rintro v w'' ⟨rk1, rfl, rF1, G⟩; exact ⟨⟨rk1, rfl, (by first | exact rF1.mono (V.In.mono_l h.1.size) | exact rF1 | exact rF1.mono (fun _ h => h) h.1.size (Nat.le_refl _))⟩, G⟩)) rfl rfl rfl rfl ?_
   rintro _ w97 - - ⟨k95, rfl, -⟩
   refine V.grun T_ok 1 rfl (V.sel_none rfl) ?_
   have Fc98 := Fk2
   rw [hkd] at Fc98
   refine V.gloadO T_ok (fun w' h => Fc98.gr h.1) rfl rfl rfl rfl rfl rfl ?_
   refine V.gstep rfl rfl rfl (fun w' h => V.look_run (V.key_int Try.underlying39) rfl Try.underlying104 zero103 (by obtain ⟨_, he, F0⟩ := (V.Hist.here (h.get (i := 0) rfl)); cases he; exact F0) rfl rfl) ?_
   refine V.grun T_ok 1 rfl (V.sel_none rfl) ?_
   refine V.gloadO T_ok (fun w' h => Fk2.gr h.1) rfl rfl rfl rfl rfl rfl ?_
   refine V.gnil ?_
   rintro w99 G100 hH101
   have z102 := V.Fr.size G100
   have F96 : V.MapB w99 k95 (Value.int .i64) (V.mput (V.mput (V.mput (V.mput (V.mput [] 1 (.func (.func 52) #[] #[])) 2 (.func (.func 53) #[] #[])) 3 (.func (.func 54) #[] #[])) 4 (.func (.func 55) #[] #[])) 5 (.func (.func 56) #[] #[])) := by
     obtain ⟨_, he, F0⟩ := (V.Hist.here (hH101 0))
     cases he
     exact F0
   clear hH101
   replace F_me := F_me.gr G100
   replace F_md := F_md.gr G100
   replace FJ := FJ.gr G100
   refine V.call (snp_spec (mg := mg) FJ F_me (by intro k h; (try dsimp only [V.In] at h ⊢); first | omega | grind) F_md (by intro k h; (try dsimp only [V.In] at h ⊢); first | omega | grind) (by intro j h; first | exact h.elim | (have a1 := hM j; (try dsimp only [V.In] at h); grind)) (by intro j h; first | exact h.elim | (have a1 := hM j; (try dsimp only [V.In] at h); grind)) (by first | assumption | omega) (by first | assumption | omega) (by first | assumption | omega) (by first | assumption | omega) (by first | assumption | omega)) rfl rfl rfl ?_
   rintro _ w108 ⟨M103, D104, rfl, F105, h106, h107, G109⟩
   have z110 := V.FrE.size G109
   refine V.nt ?_
   refine V.sr ?_
   refine V.ru 1 ?_
   refine V.nt ?_
   refine V.ret ?_
   rw [show stepV d mg = snpV (riseV d mg) mg from by (unfold stepV; rw [if_pos hr]; rw [if_neg (show ¬ mg.kd = 1 by omega)]; rw [if_neg (show ¬ mg.kd = 2 by omega)]; rw [if_neg (show ¬ mg.kd = 3 by omega)]; rw [if_neg (show ¬ mg.kd = 4 by omega)]; skip), if_pos hr]
   refine V.done rfl ?_
   replace HG := HG.grow G100
   replace HG := HG.stepE G109 (by intro i h; (try dsimp only [V.In] at h ⊢); first | omega | grind)
   exact ⟨_, _, (by first | rfl | simp only [List.length_set]), F105, (by intro j h; (try dsimp only [V.In] at *); grind), (by intro j h; (try dsimp only [V.In] at *); grind), HG⟩


end Go.Proofs.Ytphohfpbdkgnaaa
