/- Proved here: walks: what functions of this seat's program return and what they leave of memory, each as a contract. Conditions: stated at each theorem. -/
import Derived.Test.YtphohfpbdkgnaaaMraft5
namespace Go.Proofs.Ytphohfpbdkgnaaa
set_option linter.unusedVariables false
set_option linter.unusedSimpArgs false
open Go
open V (Bytes Meets Env Sl Own Gr Fr Cells S)

theorem more_out (d : NodeV) (x : List UInt8) : (moreV d x).out = d.out := by unfold moreV; split <;> rfl
set_option maxHeartbeats 4000000 in
set_option maxRecDepth 10000 in
theorem rlast2_spec {w : World} {k kl g : Nat} {c0 c1 c2 c3 c4 c5 : Value} {cr : List Value} {B : Nat → Prop} {dl : LogV} (Fk : Cells w k (c0 :: c1 :: c2 :: c3 :: c4 :: c5 :: .pointer (some ⟨kl, 0, none⟩) :: cr) 101) (FL : Lg w kl g B dl)   :
    Meets Try.prog 59 [.pointer (some ⟨k, 0, none⟩)] w fun r w' => r = .int .i64 (lastI dl) ∧ Gr w w' := by
 have HG := V.Fr.refl [] w
 refine V.enter (n := 14) Try.func59 rfl rfl (by decide) rfl ?_
 refine V.sr ?_
 refine V.ru 1 ?_
 refine V.nt ?_
 refine V.sr ?_
 refine V.ru 3 ?_
 refine V.loadO T_ok Fk rfl rfl rfl rfl rfl ?_
 refine V.call (last_spec FL) rfl rfl rfl ?_
 rintro _ w1 ⟨rfl, G2⟩
 have z3 := V.Fr.size G2
 refine V.ru 5 ?_
 refine V.nt ?_
 refine V.sr ?_
 refine V.ru 2 ?_
 refine V.nt ?_
 refine V.ret ?_
 refine V.done rfl ?_
 replace HG := HG.grow G2
 exact ⟨(by first | rfl | simp only [List.length_set]), HG⟩

set_option maxHeartbeats 4000000 in
set_option maxRecDepth 10000 in
theorem voted_spec {w : World} {k : Nat} {M D : Nat → Prop} {d : NodeV} (FX : Nd w k M D d) {mg : RMsg} {q0 : Int} {q1 : Int} {q2 : Int} {q3 : Int} {q4 : Int} {q5 : Int} {q6 : Int} {q7 : Int} {q8 : ByteArray} {q9 : Int} {q10 : Int} {q11 : Int} {q12 : ByteArray} {q13 : ByteArray} {q14 : ByteArray} {q15 : Bool} {q16 : Int} {q17 : Int} {q18 : Int} {q19 : Int} {q20 : Bool} {q21 : Bool} {q22a : Option Addr} {q22n q22c : Nat} {q23 : Int} {q24 : Int} {q25 : Int} {q26 : Int} {q27a : Option Addr} {q27n q27c : Nat} {q28 : Bool} {q29 : Int} {q30 : Int} {q31 : ByteArray} {q32 : Int} {q33 : Int} {q34 : Int} {q35 : Int} {q36 : Int} {q37 : Int} {q38 : Int} {q39 : Int} {q40 : Int} {q41a : Option Addr} {q41n q41c : Nat} {D_me : Nat → Prop} {c_me : Nat} {a_me : Option Addr} (F_me : Sl V.Cod.ent w D_me a_me c_me mg.es) (hD_me : ∀ k, D_me k → k < w.heap.size) {D_md : Nat → Prop} {c_md : Nat} {a_md : Option Addr} (F_md : Sl V.Cod.byte w D_md a_md c_md mg.da) (hD_md : ∀ k, D_md k → k < w.heap.size)  (hMe : ∀ j, D_me j → ¬ M j) (hMm : ∀ j, D_md j → ¬ M j) (hf : 0 ≤ mg.fr ∧ mg.fr ≤ 2) (hs : d.out.length + 3 ≤ 1000000) (hn : d.nc + 1 ≤ 1000000) (hL : d.L.l.length + 1 ≤ 1000000) :
    Meets Try.prog 53 [.pointer (some ⟨k, 0, none⟩), .agg #[.int .i64 mg.kd, .int .i64 mg.fr, .int .i64 mg.to, .int .i64 mg.rg, .int .i64 mg.te, .int .i64 mg.ix, .int .i64 mg.lt, .int .i64 mg.co, .bool mg.ok, .slice a_me mg.es.length c_me, .slice a_md mg.da.length c_md, .int .i64 q0, .int .i64 q1, .int .i64 q2, .int .i64 q3, .int .i64 q4, .int .i64 q5, .int .i64 q6, .int .i64 q7, .string q8, .int .i64 q9, .int .i64 q10, .int .i64 q11, .string q12, .string q13, .string q14, .bool q15, .int .i64 q16, .int .i64 q17, .int .i64 q18, .int .i64 q19, .bool q20, .bool q21, .slice q22a q22n q22c, .int .i64 q23, .int .i64 q24, .int .i64 q25, .int .i64 q26, .slice q27a q27n q27c, .bool q28, .int .i64 q29, .int .i64 q30, .string q31, .int .i64 q32, .int .i64 q33, .int .i64 q34, .int .i64 q35, .int .i64 q36, .int .i64 q37, .int .i64 q38, .int .i64 q39, .int .i64 q40, .slice q41a q41n q41c]] w fun r w' => ∃ (rM32 : Nat → Prop) (rD32 : Nat → Prop), r = .tuple #[] ∧ Nd w' k rM32 rD32 (votedV d mg) ∧ (∀ j, rM32 j → M j ∨ w.heap.size ≤ j) ∧ (∀ j, rD32 j → D j ∨ M j ∨ w.heap.size ≤ j) ∧ V.FrE M w w' := by
 have hM := FX.lm
 have hk0 := FX.lm _ FX.mk'
 have hD := FX.ld
 have hMD := FX.dj
 have hMk := FX.mk'
 have HG := V.FrE.refl M w
 refine V.enter (n := 79) Try.func53 rfl rfl (by decide) rfl ?_
 refine V.sr ?_
 refine V.box rfl rfl rfl rfl ?_
 rintro k1 w3 s5 s6 G4 Fk2
 have z7 := V.Fr.size G4
 try simp only [V.cellsL, V.spliceL] at Fk2
 refine V.nt ?_
 refine V.seq ?_
 replace FX := FX.gr G4
 replace F_me := F_me.gr G4
 replace F_md := F_md.gr G4
 replace HG := HG.grow G4
 refine V.seqJ (fun e v9 => V.FrE M w v9 ∧ w3.heap.size ≤ v9.heap.size ∧ Nd v9 k M D d ∧ Sl V.Cod.ent v9 D_me a_me c_me mg.es ∧ Sl V.Cod.byte v9 D_md a_md c_md mg.da ∧ Cells v9 k1 [.int .i64 mg.kd, .int .i64 mg.fr, .int .i64 mg.to, .int .i64 mg.rg, .int .i64 mg.te, .int .i64 mg.ix, .int .i64 mg.lt, .int .i64 mg.co, .bool mg.ok, .slice a_me mg.es.length c_me, .slice a_md mg.da.length c_md, .int .i64 q0, .int .i64 q1, .int .i64 q2, .int .i64 q3, .int .i64 q4, .int .i64 q5, .int .i64 q6, .int .i64 q7, .string q8, .int .i64 q9, .int .i64 q10, .int .i64 q11, .string q12, .string q13, .string q14, .bool q15, .int .i64 q16, .int .i64 q17, .int .i64 q18, .int .i64 q19, .bool q20, .bool q21, .slice q22a q22n q22c, .int .i64 q23, .int .i64 q24, .int .i64 q25, .int .i64 q26, .slice q27a q27n q27c, .bool q28, .int .i64 q29, .int .i64 q30, .string q31, .int .i64 q32, .int .i64 q33, .int .i64 q34, .int .i64 q35, .int .i64 q36, .int .i64 q37, .int .i64 q38, .int .i64 q39, .int .i64 q40, .slice q41a q41n q41c] 57 ∧ e 0 = .pointer (some ⟨k, 0, none⟩) ∧ e 3 = .pointer (some ⟨k1, 0, none⟩) ∧ e 26 = .bool ((decide (¬ mg.te = d.te) || decide (¬ d.ro = 1)) || !mg.ok) ∧ True) ?_ ?_
 ·
  obtain ⟨kl_10, g_10, B_10, SO_10, SC_10, ad_10, cd_10, ao_10, co_10, ac_10, cc_10, ch_10, hP_10, hc_10, Fk_10, FL_10, FQ_10⟩ := FX.ex
  obtain ⟨hid_10, hrg_10, hte_10, hco_10, hx0_10, hx1_10, hx2_10, hm0_10, hm1_10, hm2_10, hda_10⟩ := FX.ok
  have nk_10 := hP_10.nk
  have nl_10 := hP_10.nl
  have ng_10 := hP_10.ng
  have kL_10 := hP_10.kL
  have lq_10 := hP_10.lq
  have bd_10 := hP_10.d
  obtain ⟨mk_10, ml_10, mg_10⟩ := hP_10.m
  have hA_10 := hP_10.a
  have lm_10 := hP_10.lm
  have ld_10 := hP_10.ld
  have hLo_10 := FL_10.ok
  have hLd_10 := FL_10.dl
  have hLg_10 := FL_10.gl
  have hLk_10 := FL_10.lt
  have hLb_10 := FL_10.bl
  have hkl_10 := Fk_10.lt
  refine V.drawQ mixed (by kernel_rfl) ?_
  refine V.qrun T_ok 1 rfl ?_
  refine V.qloadO T_ok Fk2 rfl rfl rfl rfl rfl ?_
  refine V.qrun T_ok 3 rfl ?_
  refine V.qloadO T_ok Fk_10 rfl rfl rfl rfl rfl ?_
  refine V.qrun T_ok 2 rfl ?_
  refine V.qsplit (j := 7) (t := 15) rfl rfl (fun g1_7 => ?_) (fun g1_7 => ?_)
  ·
   try replace g1_7 := V.dec g1_7
   try simp only [V.mk] at g1_7
   refine V.qrun T_ok 11 rfl ?_
   refine V.qnil ?_
   rintro w11 G12
   have z13 := V.Fr.size G12
   refine V.tN ?_
   replace FX := FX.gr G12
   replace F_me := F_me.gr G12
   replace F_md := F_md.gr G12
   replace Fk2 := Fk2.gr G12
   replace HG := HG.grow G12
   exact ⟨HG, (by omega), FX, F_me, F_md, Fk2, rfl, rfl, (congrArg Value.bool (by first | rfl | (simp_all; done) | grind)), trivial⟩
  ·
   try replace g1_7 := V.dec g1_7
   try simp only [V.mk] at g1_7
   refine V.qrun T_ok 3 rfl ?_
   refine V.qyes rfl rfl rfl ?_
   refine V.qloadO T_ok Fk_10 rfl rfl rfl rfl rfl ?_
   refine V.qrun T_ok 3 rfl ?_
   refine V.qsplit (j := 14) (t := 22) rfl rfl (fun g1_14 => ?_) (fun g1_14 => ?_)
   ·
    try replace g1_14 := V.dec g1_14
    try simp only [V.mk] at g1_14
    refine V.qrun T_ok 4 rfl ?_
    refine V.qnil ?_
    rintro w14 G15
    have z16 := V.Fr.size G15
    refine V.tN ?_
    replace FX := FX.gr G15
    replace F_me := F_me.gr G15
    replace F_md := F_md.gr G15
    replace Fk2 := Fk2.gr G15
    replace HG := HG.grow G15
    exact ⟨HG, (by omega), FX, F_me, F_md, Fk2, rfl, rfl, (congrArg Value.bool (by first | rfl | (simp_all; done) | grind)), trivial⟩
   ·
    try replace g1_14 := V.dec g1_14
    try simp only [V.mk] at g1_14
    refine V.qrun T_ok 1 rfl ?_
    refine V.qyes rfl rfl rfl ?_
    refine V.qloadO T_ok Fk2 rfl rfl rfl rfl rfl ?_
    refine V.qrun T_ok 2 rfl ?_
    refine V.qnil ?_
    rintro w17 G18
    have z19 := V.Fr.size G18
    refine V.tN ?_
    replace FX := FX.gr G18
    replace F_me := F_me.gr G18
    replace F_md := F_md.gr G18
    replace Fk2 := Fk2.gr G18
    replace HG := HG.grow G18
    exact ⟨HG, (by omega), FX, F_me, F_md, Fk2, rfl, rfl, (congrArg Value.bool (by first | rfl | (simp_all; done) | grind)), trivial⟩
 clear HG FX F_me F_md Fk2
 rintro e v9 ⟨HG, z20, FX, F_me, F_md, Fk2, hjn8_0, hjn8_3, hjn8_26, -⟩
 refine V.knownC (t := 0) hjn8_0 ?_
 refine V.knownC (t := 3) hjn8_3 ?_
 refine V.knownC (t := 26) hjn8_26 ?_
 refine V.condT rfl (fun h1 => ?_) (fun h1 => ?_)
 ·
  try replace h1 := V.dec h1
  try simp only [V.mk] at h1
  have hno : ¬ (mg.te = d.te ∧ d.ro = 1 ∧ mg.ok = true) := by (try simp at h1); grind
  refine V.ret ?_
  refine V.tR ?_
  rw [show votedV d mg = d from if_neg hno]
  refine V.done rfl ?_
  exact ⟨_, _, (by first | rfl | simp only [List.length_set]), FX, (by intro j h; (try dsimp only [V.In] at *); grind), (by intro j h; (try dsimp only [V.In] at *); grind), HG⟩
 ·
  try replace h1 := V.dec h1
  try simp only [V.mk] at h1
  have hyes : mg.te = d.te ∧ d.ro = 1 ∧ mg.ok = true := by (try simp at h1); grind
  refine V.skip ?_
  refine V.tN ?_
  refine V.seqJ (fun e v22 => V.FrE M w v22 ∧ v9.heap.size ≤ v22.heap.size ∧ Sl V.Cod.ent v22 D_me a_me c_me mg.es ∧ Sl V.Cod.byte v22 D_md a_md c_md mg.da ∧ Cells v22 k1 [.int .i64 mg.kd, .int .i64 mg.fr, .int .i64 mg.to, .int .i64 mg.rg, .int .i64 mg.te, .int .i64 mg.ix, .int .i64 mg.lt, .int .i64 mg.co, .bool mg.ok, .slice a_me mg.es.length c_me, .slice a_md mg.da.length c_md, .int .i64 q0, .int .i64 q1, .int .i64 q2, .int .i64 q3, .int .i64 q4, .int .i64 q5, .int .i64 q6, .int .i64 q7, .string q8, .int .i64 q9, .int .i64 q10, .int .i64 q11, .string q12, .string q13, .string q14, .bool q15, .int .i64 q16, .int .i64 q17, .int .i64 q18, .int .i64 q19, .bool q20, .bool q21, .slice q22a q22n q22c, .int .i64 q23, .int .i64 q24, .int .i64 q25, .int .i64 q26, .slice q27a q27n q27c, .bool q28, .int .i64 q29, .int .i64 q30, .string q31, .int .i64 q32, .int .i64 q33, .int .i64 q34, .int .i64 q35, .int .i64 q36, .int .i64 q37, .int .i64 q38, .int .i64 q39, .int .i64 q40, .slice q41a q41n q41c] 57 ∧ Nd v22 k M D (setV d mg.fr) ∧ e 0 = .pointer (some ⟨k, 0, none⟩) ∧ True) ?_ ?_
  ·
   rcases (show mg.fr = 0 ∨ mg.fr = 1 ∨ mg.fr = 2 by omega) with hcs | hcs | hcs
   ·
    obtain ⟨kl_23, g_23, B_23, SO_23, SC_23, ad_23, cd_23, ao_23, co_23, ac_23, cc_23, ch_23, hP_23, hc_23, Fk_23, FL_23, FQ_23⟩ := FX.ex
    obtain ⟨hid_23, hrg_23, hte_23, hco_23, hx0_23, hx1_23, hx2_23, hm0_23, hm1_23, hm2_23, hda_23⟩ := FX.ok
    have nk_23 := hP_23.nk
    have nl_23 := hP_23.nl
    have ng_23 := hP_23.ng
    have kL_23 := hP_23.kL
    have lq_23 := hP_23.lq
    have bd_23 := hP_23.d
    obtain ⟨mk_23, ml_23, mg_23⟩ := hP_23.m
    have hA_23 := hP_23.a
    have lm_23 := hP_23.lm
    have ld_23 := hP_23.ld
    have hLo_23 := FL_23.ok
    have hLd_23 := FL_23.dl
    have hLg_23 := FL_23.gl
    have hLk_23 := FL_23.lt
    have hLb_23 := FL_23.bl
    have hkl_23 := Fk_23.lt
    clear FX
    refine V.drawT 6 mixed (by kernel_rfl) ?_
    rintro w24 G25 s26
    have z27 := V.Fr.size G25
    refine V.qrun T_ok 2 rfl ?_
    replace Fk2 := Fk2.gr G25
    have Fc28 := Fk2
    rw [hcs] at Fc28
    refine V.qloadO T_ok Fc28 rfl rfl rfl rfl rfl ?_
    refine V.qrun T_ok 2 rfl ?_
    refine V.qelemP T_ok rfl rfl rfl rfl rfl rfl (by first | omega | decide) (by first | omega | decide) ?_
    refine V.qnil ?_
    replace Fk_23 := Fk_23.gr G25
    refine V.storeO Fk_23 rfl rfl rfl rfl sz4 rfl rfl rfl rfl ?_
    rintro w29 G30 z32 Fs31
    clear Fk_23
    have z33 := V.Fr.size G30
    have Fk_23 := Fs31; clear Fs31
    simp only [V.spliceL, V.cellsL] at Fk_23
    refine V.nt ?_
    replace FL_23 := FL_23.gr G25
    replace FL_23 := FL_23.mv1 G30 (by (try dsimp only [V.In]); first | omega | grind)
    replace FQ_23 := FQ_23.gr G25
    replace FQ_23 := FQ_23.mv1 G30 (by (try dsimp only [V.In]); first | omega | grind)
    have F34 : Nd w29 k M D ({ d with v0 := true }) := ⟨⟨hid_23, hrg_23, hte_23, hco_23, hx0_23, hx1_23, hx2_23, hm0_23, hm1_23, hm2_23, hda_23⟩, _, _, _, _, _, _, _, _, _, _, _, _, (hP_23.up (by omega)), hc_23, Fk_23, FL_23, FQ_23⟩
    clear Fk_23 FL_23 FQ_23
    have hr35 : { d with v0 := true } = setV d mg.fr := (by unfold setV; rw [hcs]; rfl)
    rw [hr35] at F34
    clear hr35
    replace F_me := F_me.gr G25
    replace F_me := F_me.mv1 G30 (by (try dsimp only [V.In]); first | omega | grind)
    replace F_md := F_md.gr G25
    replace F_md := F_md.mv1 G30 (by (try dsimp only [V.In]); first | omega | grind)
    replace Fk2 := Fk2.ma G30
    replace HG := HG.grow G25
    replace HG := HG.n1 G30 (by first | (refine Or.inr ?_; omega) | (refine Or.inl ?_; first | assumption | (dsimp only; grind)) | grind)
    exact ⟨HG, (by omega), F_me, F_md, Fk2, F34, rfl, trivial⟩
   ·
    obtain ⟨kl_36, g_36, B_36, SO_36, SC_36, ad_36, cd_36, ao_36, co_36, ac_36, cc_36, ch_36, hP_36, hc_36, Fk_36, FL_36, FQ_36⟩ := FX.ex
    obtain ⟨hid_36, hrg_36, hte_36, hco_36, hx0_36, hx1_36, hx2_36, hm0_36, hm1_36, hm2_36, hda_36⟩ := FX.ok
    have nk_36 := hP_36.nk
    have nl_36 := hP_36.nl
    have ng_36 := hP_36.ng
    have kL_36 := hP_36.kL
    have lq_36 := hP_36.lq
    have bd_36 := hP_36.d
    obtain ⟨mk_36, ml_36, mg_36⟩ := hP_36.m
    have hA_36 := hP_36.a
    have lm_36 := hP_36.lm
    have ld_36 := hP_36.ld
    have hLo_36 := FL_36.ok
    have hLd_36 := FL_36.dl
    have hLg_36 := FL_36.gl
    have hLk_36 := FL_36.lt
    have hLb_36 := FL_36.bl
    have hkl_36 := Fk_36.lt
    clear FX
    refine V.drawT 6 mixed (by kernel_rfl) ?_
    rintro w37 G38 s39
    have z40 := V.Fr.size G38
    refine V.qrun T_ok 2 rfl ?_
    replace Fk2 := Fk2.gr G38
    have Fc41 := Fk2
    rw [hcs] at Fc41
    refine V.qloadO T_ok Fc41 rfl rfl rfl rfl rfl ?_
    refine V.qrun T_ok 2 rfl ?_
    refine V.qelemP T_ok rfl rfl rfl rfl rfl rfl (by first | omega | decide) (by first | omega | decide) ?_
    refine V.qnil ?_
    replace Fk_36 := Fk_36.gr G38
    refine V.storeO Fk_36 rfl rfl rfl rfl sz4 rfl rfl rfl rfl ?_
    rintro w42 G43 z45 Fs44
    clear Fk_36
    have z46 := V.Fr.size G43
    have Fk_36 := Fs44; clear Fs44
    simp only [V.spliceL, V.cellsL] at Fk_36
    refine V.nt ?_
    replace FL_36 := FL_36.gr G38
    replace FL_36 := FL_36.mv1 G43 (by (try dsimp only [V.In]); first | omega | grind)
    replace FQ_36 := FQ_36.gr G38
    replace FQ_36 := FQ_36.mv1 G43 (by (try dsimp only [V.In]); first | omega | grind)
    have F47 : Nd w42 k M D ({ d with v1 := true }) := ⟨⟨hid_36, hrg_36, hte_36, hco_36, hx0_36, hx1_36, hx2_36, hm0_36, hm1_36, hm2_36, hda_36⟩, _, _, _, _, _, _, _, _, _, _, _, _, (hP_36.up (by omega)), hc_36, Fk_36, FL_36, FQ_36⟩
    clear Fk_36 FL_36 FQ_36
    have hr48 : { d with v1 := true } = setV d mg.fr := (by unfold setV; rw [hcs]; rfl)
    rw [hr48] at F47
    clear hr48
    replace F_me := F_me.gr G38
    replace F_me := F_me.mv1 G43 (by (try dsimp only [V.In]); first | omega | grind)
    replace F_md := F_md.gr G38
    replace F_md := F_md.mv1 G43 (by (try dsimp only [V.In]); first | omega | grind)
    replace Fk2 := Fk2.ma G43
    replace HG := HG.grow G38
    replace HG := HG.n1 G43 (by first | (refine Or.inr ?_; omega) | (refine Or.inl ?_; first | assumption | (dsimp only; grind)) | grind)
    exact ⟨HG, (by omega), F_me, F_md, Fk2, F47, rfl, trivial⟩
   ·
    obtain ⟨kl_49, g_49, B_49, SO_49, SC_49, ad_49, cd_49, ao_49, co_49, ac_49, cc_49, ch_49, hP_49, hc_49, Fk_49, FL_49, FQ_49⟩ := FX.ex
    obtain ⟨hid_49, hrg_49, hte_49, hco_49, hx0_49, hx1_49, hx2_49, hm0_49, hm1_49, hm2_49, hda_49⟩ := FX.ok
    have nk_49 := hP_49.nk
    have nl_49 := hP_49.nl
    have ng_49 := hP_49.ng
    have kL_49 := hP_49.kL
    have lq_49 := hP_49.lq
    have bd_49 := hP_49.d
    obtain ⟨mk_49, ml_49, mg_49⟩ := hP_49.m
    have hA_49 := hP_49.a
    have lm_49 := hP_49.lm
    have ld_49 := hP_49.ld
    have hLo_49 := FL_49.ok
    have hLd_49 := FL_49.dl
    have hLg_49 := FL_49.gl
    have hLk_49 := FL_49.lt
    have hLb_49 := FL_49.bl
    have hkl_49 := Fk_49.lt
    clear FX
    refine V.drawT 6 mixed (by kernel_rfl) ?_
    rintro w50 G51 s52
    have z53 := V.Fr.size G51
    refine V.qrun T_ok 2 rfl ?_
    replace Fk2 := Fk2.gr G51
    have Fc54 := Fk2
    rw [hcs] at Fc54
    refine V.qloadO T_ok Fc54 rfl rfl rfl rfl rfl ?_
    refine V.qrun T_ok 2 rfl ?_
    refine V.qelemP T_ok rfl rfl rfl rfl rfl rfl (by first | omega | decide) (by first | omega | decide) ?_
    refine V.qnil ?_
    replace Fk_49 := Fk_49.gr G51
    refine V.storeO Fk_49 rfl rfl rfl rfl sz4 rfl rfl rfl rfl ?_
    rintro w55 G56 z58 Fs57
    clear Fk_49
    have z59 := V.Fr.size G56
    have Fk_49 := Fs57; clear Fs57
    simp only [V.spliceL, V.cellsL] at Fk_49
    refine V.nt ?_
    replace FL_49 := FL_49.gr G51
    replace FL_49 := FL_49.mv1 G56 (by (try dsimp only [V.In]); first | omega | grind)
    replace FQ_49 := FQ_49.gr G51
    replace FQ_49 := FQ_49.mv1 G56 (by (try dsimp only [V.In]); first | omega | grind)
    have F60 : Nd w55 k M D ({ d with v2 := true }) := ⟨⟨hid_49, hrg_49, hte_49, hco_49, hx0_49, hx1_49, hx2_49, hm0_49, hm1_49, hm2_49, hda_49⟩, _, _, _, _, _, _, _, _, _, _, _, _, (hP_49.up (by omega)), hc_49, Fk_49, FL_49, FQ_49⟩
    clear Fk_49 FL_49 FQ_49
    have hr61 : { d with v2 := true } = setV d mg.fr := (by unfold setV; rw [hcs]; rfl)
    rw [hr61] at F60
    clear hr61
    replace F_me := F_me.gr G51
    replace F_me := F_me.mv1 G56 (by (try dsimp only [V.In]); first | omega | grind)
    replace F_md := F_md.gr G51
    replace F_md := F_md.mv1 G56 (by (try dsimp only [V.In]); first | omega | grind)
    replace Fk2 := Fk2.ma G56
    replace HG := HG.grow G51
    replace HG := HG.n1 G56 (by first | (refine Or.inr ?_; omega) | (refine Or.inl ?_; first | assumption | (dsimp only; grind)) | grind)
    exact ⟨HG, (by omega), F_me, F_md, Fk2, F60, rfl, trivial⟩
  clear HG F_me F_md Fk2
  try clear FX
  rintro e v22 ⟨HG, z62, F_me, F_md, Fk2, FJ, hjn21_0, -⟩
  refine V.knownC (t := 0) hjn21_0 ?_
  refine V.sr ?_
  refine V.ru 1 ?_
  refine V.nt ?_
  refine V.seq ?_
  refine V.seq ?_
  obtain ⟨kl_63, g_63, B_63, SO_63, SC_63, ad_63, cd_63, ao_63, co_63, ac_63, cc_63, ch_63, hP_63, hc_63, Fk_63, FL_63, FQ_63⟩ := FJ.ex
  obtain ⟨hid_63, hrg_63, hte_63, hco_63, hx0_63, hx1_63, hx2_63, hm0_63, hm1_63, hm2_63, hda_63⟩ := FJ.ok
  have nk_63 := hP_63.nk
  have nl_63 := hP_63.nl
  have ng_63 := hP_63.ng
  have kL_63 := hP_63.kL
  have lq_63 := hP_63.lq
  have bd_63 := hP_63.d
  obtain ⟨mk_63, ml_63, mg_63⟩ := hP_63.m
  have hA_63 := hP_63.a
  have lm_63 := hP_63.lm
  have ld_63 := hP_63.ld
  have hLo_63 := FL_63.ok
  have hLd_63 := FL_63.dl
  have hLg_63 := FL_63.gl
  have hLk_63 := FL_63.lt
  have hLb_63 := FL_63.bl
  have hkl_63 := Fk_63.lt
  refine V.region ?_
  refine V.ru 3 ?_
  refine V.loadO T_ok Fk_63 rfl rfl rfl rfl rfl ?_
  refine V.ru 1 ?_
  refine V.nt ?_
  refine V.block ?_
  refine V.loopR 4 ?_
  refine V.rnd ?_
  refine V.sr ?_
  refine V.ru 1 ?_
  refine V.nt ?_
  refine V.seq ?_
  refine V.condY rfl rfl ?_
  refine V.skip ?_
  refine V.tN ?_
  refine V.seqJ (fun e v65 => V.FrE M w v65 ∧ v22.heap.size ≤ v65.heap.size ∧ Sl V.Cod.ent v65 D_me a_me c_me mg.es ∧ Sl V.Cod.byte v65 D_md a_md c_md mg.da ∧ Cells v65 k1 [.int .i64 mg.kd, .int .i64 mg.fr, .int .i64 mg.to, .int .i64 mg.rg, .int .i64 mg.te, .int .i64 mg.ix, .int .i64 mg.lt, .int .i64 mg.co, .bool mg.ok, .slice a_me mg.es.length c_me, .slice a_md mg.da.length c_md, .int .i64 q0, .int .i64 q1, .int .i64 q2, .int .i64 q3, .int .i64 q4, .int .i64 q5, .int .i64 q6, .int .i64 q7, .string q8, .int .i64 q9, .int .i64 q10, .int .i64 q11, .string q12, .string q13, .string q14, .bool q15, .int .i64 q16, .int .i64 q17, .int .i64 q18, .int .i64 q19, .bool q20, .bool q21, .slice q22a q22n q22c, .int .i64 q23, .int .i64 q24, .int .i64 q25, .int .i64 q26, .slice q27a q27n q27c, .bool q28, .int .i64 q29, .int .i64 q30, .string q31, .int .i64 q32, .int .i64 q33, .int .i64 q34, .int .i64 q35, .int .i64 q36, .int .i64 q37, .int .i64 q38, .int .i64 q39, .int .i64 q40, .slice q41a q41n q41c] 57 ∧ Nd v65 k M D (setV d mg.fr) ∧ Cells v65 k [.int .i64 ((setV d mg.fr).id), .int .i64 ((setV d mg.fr).rg), .int .i64 ((setV d mg.fr).te), .int .i64 ((setV d mg.fr).vo), .int .i64 ((setV d mg.fr).ro), .int .i64 ((setV d mg.fr).le), .pointer (some ⟨kl_63, 0, none⟩), .int .i64 ((setV d mg.fr).co), .slice ad_63 ((setV d mg.fr).da).length cd_63, .bool ((setV d mg.fr).v0), .bool ((setV d mg.fr).v1), .bool ((setV d mg.fr).v2), .int .i64 ((setV d mg.fr).x0), .int .i64 ((setV d mg.fr).x1), .int .i64 ((setV d mg.fr).x2), .int .i64 ((setV d mg.fr).m0), .int .i64 ((setV d mg.fr).m1), .int .i64 ((setV d mg.fr).m2), .slice ao_63 ((setV d mg.fr).out).length co_63, .slice ac_63 ch_63.length cc_63] 101 ∧ Lg v65 kl_63 g_63 B_63 (setV d mg.fr).L ∧ Nq v65 SO_63 SC_63 D ad_63 cd_63 ao_63 co_63 ac_63 cc_63 ch_63 ((setV d mg.fr).da) ((setV d mg.fr).out) ∧ e 0 = .pointer (some ⟨k, 0, none⟩) ∧ e 4 = .int .i64 (if (setV d mg.fr).v0 = true then (1 : Int) else 0) ∧ e 36 = .agg #[.bool ((setV d mg.fr).v0), .bool ((setV d mg.fr).v1), .bool ((setV d mg.fr).v2)] ∧ e 37 = .int .i64 0 ∧ True) ?_ ?_
  ·
   refine V.block ?_
   refine V.sr ?_
   refine V.step rfl rfl (V.idxA_run T_ok rfl rfl rfl rfl (by decide) (by decide) rfl _) ?_
   refine V.ru 1 ?_
   refine V.nt ?_
   refine V.sr ?_
   refine V.ru 1 ?_
   refine V.nt ?_
   refine V.condT rfl (fun h7_0 => ?_) (fun h7_0 => ?_)
   ·
    try replace h7_0 := V.dec h7_0
    try simp only [V.mk] at h7_0
    refine V.region ?_
    refine V.ru 1 ?_
    refine V.addN rfl rfl rfl rfl rfl V.lenA V.lenA ?_
    refine V.ru 1 ?_
    refine V.nil ?_
    refine V.bN ?_
    refine V.tN ?_
    exact ⟨HG, (by omega), F_me, F_md, Fk2, FJ, Fk_63, FL_63, FQ_63, rfl, (congrArg (Value.int .i64) (by first | rfl | grind | (simp_all; done))), rfl, rfl, trivial⟩
   ·
    try replace h7_0 := V.dec h7_0
    try simp only [V.mk] at h7_0
    refine V.skip ?_
    refine V.bN ?_
    refine V.tN ?_
    exact ⟨HG, (by omega), F_me, F_md, Fk2, FJ, Fk_63, FL_63, FQ_63, rfl, (congrArg (Value.int .i64) (by first | rfl | grind | (simp_all; done))), rfl, rfl, trivial⟩
  clear HG F_me F_md Fk2 FJ Fk_63 FL_63 FQ_63
  rintro e v65 ⟨HG, z66, F_me, F_md, Fk2, FJ, Fk_63, FL_63, FQ_63, hjn64_0, hjn64_4, hjn64_36, hjn64_37, -⟩
  refine V.knownC (t := 0) hjn64_0 ?_
  refine V.knownC (t := 4) hjn64_4 ?_
  refine V.knownC (t := 36) hjn64_36 ?_
  refine V.knownC (t := 37) hjn64_37 ?_
  refine V.region ?_
  refine V.addN rfl rfl rfl rfl rfl V.lenA V.lenA ?_
  refine V.ru 1 ?_
  refine V.nt ?_
  refine V.rnd ?_
  refine V.sr ?_
  refine V.ru 1 ?_
  refine V.nt ?_
  refine V.seq ?_
  refine V.condY rfl rfl ?_
  refine V.skip ?_
  refine V.tN ?_
  refine V.seqJ (fun e v68 => V.FrE M w v68 ∧ v65.heap.size ≤ v68.heap.size ∧ Sl V.Cod.ent v68 D_me a_me c_me mg.es ∧ Sl V.Cod.byte v68 D_md a_md c_md mg.da ∧ Cells v68 k1 [.int .i64 mg.kd, .int .i64 mg.fr, .int .i64 mg.to, .int .i64 mg.rg, .int .i64 mg.te, .int .i64 mg.ix, .int .i64 mg.lt, .int .i64 mg.co, .bool mg.ok, .slice a_me mg.es.length c_me, .slice a_md mg.da.length c_md, .int .i64 q0, .int .i64 q1, .int .i64 q2, .int .i64 q3, .int .i64 q4, .int .i64 q5, .int .i64 q6, .int .i64 q7, .string q8, .int .i64 q9, .int .i64 q10, .int .i64 q11, .string q12, .string q13, .string q14, .bool q15, .int .i64 q16, .int .i64 q17, .int .i64 q18, .int .i64 q19, .bool q20, .bool q21, .slice q22a q22n q22c, .int .i64 q23, .int .i64 q24, .int .i64 q25, .int .i64 q26, .slice q27a q27n q27c, .bool q28, .int .i64 q29, .int .i64 q30, .string q31, .int .i64 q32, .int .i64 q33, .int .i64 q34, .int .i64 q35, .int .i64 q36, .int .i64 q37, .int .i64 q38, .int .i64 q39, .int .i64 q40, .slice q41a q41n q41c] 57 ∧ Nd v68 k M D (setV d mg.fr) ∧ Cells v68 k [.int .i64 ((setV d mg.fr).id), .int .i64 ((setV d mg.fr).rg), .int .i64 ((setV d mg.fr).te), .int .i64 ((setV d mg.fr).vo), .int .i64 ((setV d mg.fr).ro), .int .i64 ((setV d mg.fr).le), .pointer (some ⟨kl_63, 0, none⟩), .int .i64 ((setV d mg.fr).co), .slice ad_63 ((setV d mg.fr).da).length cd_63, .bool ((setV d mg.fr).v0), .bool ((setV d mg.fr).v1), .bool ((setV d mg.fr).v2), .int .i64 ((setV d mg.fr).x0), .int .i64 ((setV d mg.fr).x1), .int .i64 ((setV d mg.fr).x2), .int .i64 ((setV d mg.fr).m0), .int .i64 ((setV d mg.fr).m1), .int .i64 ((setV d mg.fr).m2), .slice ao_63 ((setV d mg.fr).out).length co_63, .slice ac_63 ch_63.length cc_63] 101 ∧ Lg v68 kl_63 g_63 B_63 (setV d mg.fr).L ∧ Nq v68 SO_63 SC_63 D ad_63 cd_63 ao_63 co_63 ac_63 cc_63 ch_63 ((setV d mg.fr).da) ((setV d mg.fr).out) ∧ e 0 = .pointer (some ⟨k, 0, none⟩) ∧ e 4 = .int .i64 ((if (setV d mg.fr).v0 = true then (1 : Int) else 0) + (if (setV d mg.fr).v1 = true then (1 : Int) else 0)) ∧ e 36 = .agg #[.bool ((setV d mg.fr).v0), .bool ((setV d mg.fr).v1), .bool ((setV d mg.fr).v2)] ∧ e 37 = .int .i64 (0 + 1) ∧ True) ?_ ?_
  ·
   refine V.block ?_
   refine V.sr ?_
   refine V.step rfl rfl (V.idxA_run T_ok rfl rfl rfl rfl (by decide) (by decide) rfl _) ?_
   refine V.ru 1 ?_
   refine V.nt ?_
   refine V.sr ?_
   refine V.ru 1 ?_
   refine V.nt ?_
   refine V.condT rfl (fun h7_1 => ?_) (fun h7_1 => ?_)
   ·
    try replace h7_1 := V.dec h7_1
    try simp only [V.mk] at h7_1
    refine V.region ?_
    refine V.ru 1 ?_
    refine V.addN rfl rfl rfl rfl rfl V.lenA V.lenA ?_
    refine V.ru 1 ?_
    refine V.nil ?_
    refine V.bN ?_
    refine V.tN ?_
    exact ⟨HG, (by omega), F_me, F_md, Fk2, FJ, Fk_63, FL_63, FQ_63, rfl, (congrArg (Value.int .i64) (by first | rfl | grind | (simp_all; done))), rfl, rfl, trivial⟩
   ·
    try replace h7_1 := V.dec h7_1
    try simp only [V.mk] at h7_1
    refine V.skip ?_
    refine V.bN ?_
    refine V.tN ?_
    exact ⟨HG, (by omega), F_me, F_md, Fk2, FJ, Fk_63, FL_63, FQ_63, rfl, (congrArg (Value.int .i64) (by first | rfl | grind | (simp_all; done))), rfl, rfl, trivial⟩
  clear HG F_me F_md Fk2 FJ Fk_63 FL_63 FQ_63
  rintro e v68 ⟨HG, z69, F_me, F_md, Fk2, FJ, Fk_63, FL_63, FQ_63, hjn67_0, hjn67_4, hjn67_36, hjn67_37, -⟩
  refine V.knownC (t := 0) hjn67_0 ?_
  refine V.knownC (t := 4) hjn67_4 ?_
  refine V.knownC (t := 36) hjn67_36 ?_
  refine V.knownC (t := 37) hjn67_37 ?_
  refine V.region ?_
  refine V.addN rfl rfl rfl rfl rfl V.lenA V.lenA ?_
  refine V.ru 1 ?_
  refine V.nt ?_
  refine V.rnd ?_
  refine V.sr ?_
  refine V.ru 1 ?_
  refine V.nt ?_
  refine V.seq ?_
  refine V.condY rfl rfl ?_
  refine V.skip ?_
  refine V.tN ?_
  refine V.seqJ (fun e v71 => V.FrE M w v71 ∧ v68.heap.size ≤ v71.heap.size ∧ Sl V.Cod.ent v71 D_me a_me c_me mg.es ∧ Sl V.Cod.byte v71 D_md a_md c_md mg.da ∧ Cells v71 k1 [.int .i64 mg.kd, .int .i64 mg.fr, .int .i64 mg.to, .int .i64 mg.rg, .int .i64 mg.te, .int .i64 mg.ix, .int .i64 mg.lt, .int .i64 mg.co, .bool mg.ok, .slice a_me mg.es.length c_me, .slice a_md mg.da.length c_md, .int .i64 q0, .int .i64 q1, .int .i64 q2, .int .i64 q3, .int .i64 q4, .int .i64 q5, .int .i64 q6, .int .i64 q7, .string q8, .int .i64 q9, .int .i64 q10, .int .i64 q11, .string q12, .string q13, .string q14, .bool q15, .int .i64 q16, .int .i64 q17, .int .i64 q18, .int .i64 q19, .bool q20, .bool q21, .slice q22a q22n q22c, .int .i64 q23, .int .i64 q24, .int .i64 q25, .int .i64 q26, .slice q27a q27n q27c, .bool q28, .int .i64 q29, .int .i64 q30, .string q31, .int .i64 q32, .int .i64 q33, .int .i64 q34, .int .i64 q35, .int .i64 q36, .int .i64 q37, .int .i64 q38, .int .i64 q39, .int .i64 q40, .slice q41a q41n q41c] 57 ∧ Nd v71 k M D (setV d mg.fr) ∧ Cells v71 k [.int .i64 ((setV d mg.fr).id), .int .i64 ((setV d mg.fr).rg), .int .i64 ((setV d mg.fr).te), .int .i64 ((setV d mg.fr).vo), .int .i64 ((setV d mg.fr).ro), .int .i64 ((setV d mg.fr).le), .pointer (some ⟨kl_63, 0, none⟩), .int .i64 ((setV d mg.fr).co), .slice ad_63 ((setV d mg.fr).da).length cd_63, .bool ((setV d mg.fr).v0), .bool ((setV d mg.fr).v1), .bool ((setV d mg.fr).v2), .int .i64 ((setV d mg.fr).x0), .int .i64 ((setV d mg.fr).x1), .int .i64 ((setV d mg.fr).x2), .int .i64 ((setV d mg.fr).m0), .int .i64 ((setV d mg.fr).m1), .int .i64 ((setV d mg.fr).m2), .slice ao_63 ((setV d mg.fr).out).length co_63, .slice ac_63 ch_63.length cc_63] 101 ∧ Lg v71 kl_63 g_63 B_63 (setV d mg.fr).L ∧ Nq v71 SO_63 SC_63 D ad_63 cd_63 ao_63 co_63 ac_63 cc_63 ch_63 ((setV d mg.fr).da) ((setV d mg.fr).out) ∧ e 0 = .pointer (some ⟨k, 0, none⟩) ∧ e 4 = .int .i64 (((if (setV d mg.fr).v0 = true then (1 : Int) else 0) + (if (setV d mg.fr).v1 = true then (1 : Int) else 0)) + (if (setV d mg.fr).v2 = true then (1 : Int) else 0)) ∧ e 36 = .agg #[.bool ((setV d mg.fr).v0), .bool ((setV d mg.fr).v1), .bool ((setV d mg.fr).v2)] ∧ e 37 = .int .i64 ((0 + 1) + 1) ∧ True) ?_ ?_
  ·
   refine V.block ?_
   refine V.sr ?_
   refine V.step rfl rfl (V.idxA_run T_ok rfl rfl rfl rfl (by decide) (by decide) rfl _) ?_
   refine V.ru 1 ?_
   refine V.nt ?_
   refine V.sr ?_
   refine V.ru 1 ?_
   refine V.nt ?_
   refine V.condT rfl (fun h7_2 => ?_) (fun h7_2 => ?_)
   ·
    try replace h7_2 := V.dec h7_2
    try simp only [V.mk] at h7_2
    refine V.region ?_
    refine V.ru 1 ?_
    refine V.addN rfl rfl rfl rfl rfl V.lenA V.lenA ?_
    refine V.ru 1 ?_
    refine V.nil ?_
    refine V.bN ?_
    refine V.tN ?_
    exact ⟨HG, (by omega), F_me, F_md, Fk2, FJ, Fk_63, FL_63, FQ_63, rfl, (congrArg (Value.int .i64) (by first | rfl | grind | (simp_all; done))), rfl, rfl, trivial⟩
   ·
    try replace h7_2 := V.dec h7_2
    try simp only [V.mk] at h7_2
    refine V.skip ?_
    refine V.bN ?_
    refine V.tN ?_
    exact ⟨HG, (by omega), F_me, F_md, Fk2, FJ, Fk_63, FL_63, FQ_63, rfl, (congrArg (Value.int .i64) (by first | rfl | grind | (simp_all; done))), rfl, rfl, trivial⟩
  clear HG F_me F_md Fk2 FJ Fk_63 FL_63 FQ_63
  rintro e v71 ⟨HG, z72, F_me, F_md, Fk2, FJ, Fk_63, FL_63, FQ_63, hjn70_0, hjn70_4, hjn70_36, hjn70_37, -⟩
  refine V.knownC (t := 0) hjn70_0 ?_
  refine V.knownC (t := 4) hjn70_4 ?_
  refine V.knownC (t := 36) hjn70_36 ?_
  refine V.knownC (t := 37) hjn70_37 ?_
  refine V.region ?_
  refine V.addN rfl rfl rfl rfl rfl V.lenA V.lenA ?_
  refine V.ru 1 ?_
  refine V.nt ?_
  refine V.rnd ?_
  refine V.sr ?_
  refine V.ru 1 ?_
  refine V.nt ?_
  refine V.seq ?_
  refine V.condN rfl rfl ?_
  refine V.exit ?_
  refine V.tX ?_
  refine V.tX ?_
  refine V.bE ?_
  refine V.tN ?_
  refine V.seq ?_
  refine V.seq ?_
  have hcn : cntV (setV d mg.fr) = ((if (setV d mg.fr).v0 = true then (1 : Int) else 0) + (if (setV d mg.fr).v1 = true then (1 : Int) else 0)) + (if (setV d mg.fr).v2 = true then (1 : Int) else 0) := rfl
  refine V.region ?_
  refine V.ru 2 ?_
  refine V.nt ?_
  refine V.condT rfl (fun h10 => ?_) (fun h10 => ?_)
  ·
   try replace h10 := V.dec h10
   try simp only [V.mk] at h10
   
   refine V.ret ?_
   refine V.tR ?_
   rw [show votedV d mg = setV d mg.fr from (if_pos hyes).trans (if_pos (by rw [hcn]; omega))]
   refine V.done rfl ?_
   exact ⟨_, _, (by first | rfl | simp only [List.length_set]), FJ, (by intro j h; (try dsimp only [V.In] at *); grind), (by intro j h; (try dsimp only [V.In] at *); grind), HG⟩
  ·
   try replace h10 := V.dec h10
   try simp only [V.mk] at h10
   
   refine V.skip ?_
   refine V.tN ?_
   refine V.seq ?_
   refine V.drawT 9 mixed (by kernel_rfl) ?_
   rintro w73 G74 s75
   have z76 := V.Fr.size G74
   refine V.qrun T_ok 4 rfl ?_
   replace Fk_63 := Fk_63.gr G74
   refine V.qloadO T_ok Fk_63 rfl rfl rfl rfl rfl ?_
   refine V.qrun T_ok 3 rfl ?_
   refine V.qloadO T_ok Fk_63 rfl rfl rfl rfl rfl ?_
   refine V.qnil ?_
   replace FJ := FJ.gr G74
   refine V.call (turn_spec (te := ((setV d mg.fr).te)) (ro := 2) (le := ((setV d mg.fr).id)) FJ (by omega)) rfl rfl rfl ?_
   rintro _ w78 ⟨rfl, F77, G79⟩
   have z80 := V.FrE.size G79
   refine V.nt ?_
   refine V.seq ?_
   refine V.seq ?_
   obtain ⟨kl_81, g_81, B_81, SO_81, SC_81, ad_81, cd_81, ao_81, co_81, ac_81, cc_81, ch_81, hP_81, hc_81, Fk_81, FL_81, FQ_81⟩ := F77.ex
   obtain ⟨hid_81, hrg_81, hte_81, hco_81, hx0_81, hx1_81, hx2_81, hm0_81, hm1_81, hm2_81, hda_81⟩ := F77.ok
   try dsimp only [turnV] at hid_81 hrg_81 hte_81 hco_81 hx0_81 hx1_81 hx2_81 hm0_81 hm1_81 hm2_81 hda_81
   have nk_81 := hP_81.nk
   have nl_81 := hP_81.nl
   have ng_81 := hP_81.ng
   have kL_81 := hP_81.kL
   have lq_81 := hP_81.lq
   have bd_81 := hP_81.d
   obtain ⟨mk_81, ml_81, mg_81⟩ := hP_81.m
   have hA_81 := hP_81.a
   have lm_81 := hP_81.lm
   have ld_81 := hP_81.ld
   have hLo_81 := FL_81.ok
   have hLd_81 := FL_81.dl
   have hLg_81 := FL_81.gl
   have hLk_81 := FL_81.lt
   have hLb_81 := FL_81.bl
   have hkl_81 := Fk_81.lt
   clear F77
   have hli : lastI ((turnV (setV d mg.fr) ((setV d mg.fr).te) (2 : Int) ((setV d mg.fr).id)).L) = ((turnV (setV d mg.fr) ((setV d mg.fr).te) (2 : Int) ((setV d mg.fr).id)).L).base + ((turnV (setV d mg.fr) ((setV d mg.fr).te) (2 : Int) ((setV d mg.fr).id)).L).l.length := rfl
   refine V.region ?_
   refine V.ru 1 ?_
   refine V.nt ?_
   refine V.block ?_
   refine V.loopR 4 ?_
   refine V.rnd ?_
   refine V.sr ?_
   refine V.ru 1 ?_
   refine V.nt ?_
   refine V.seq ?_
   refine V.condY rfl rfl ?_
   refine V.skip ?_
   refine V.tN ?_
   refine V.seq ?_
   refine V.block ?_
   refine V.sr ?_
   refine V.ru 2 ?_
   refine V.nt ?_
   replace F_me := F_me.gr G74
   replace F_me := F_me.mvE G79 (by intro j h hd; (try dsimp only [V.In] at h hd ⊢); first | omega | grind)
   replace F_md := F_md.gr G74
   replace F_md := F_md.mvE G79 (by intro j h hd; (try dsimp only [V.In] at h hd ⊢); first | omega | grind)
   replace Fk2 := Fk2.gr G74
   replace Fk2 := Fk2.mvE G79 (by (try dsimp only [V.In]); first | omega | grind)
   replace HG := HG.grow G74
   replace HG := HG.stepE G79 (by intro i h; (try dsimp only [V.In] at h ⊢); first | omega | grind)
   refine V.drawM (fun w_ => V.Fr [k] w78 w_) (fun i => Nat.beq i 5 || Nat.beq i 10 || Nat.beq i 14) (fun _ g_ => g_.mono (by simp)) mixed (by kernel_rfl) (by kernel_rfl) ?_
   refine V.mrun T_ok 5 rfl rfl ?_
   refine V.mcall (R := fun w1_ v_ w2_ => v_ = .int .i64 (lastI ((turnV (setV d mg.fr) ((setV d mg.fr).te) (2 : Int) ((setV d mg.fr).id)).L)) ∧ Gr w1_ w2_) rfl (fun w1_ g_ h_ => rlast2_spec (Fk_81.gr h_) (FL_81.gr h_)) (by rintro wa va wb ca h_ ⟨_, G_⟩; exact (V.Fr.dup ca (G_.mono (by simp)))) rfl rfl rfl ?_
   rintro _ _ _ _ _ ⟨rfl, -⟩
   refine V.maddN rfl rfl rfl rfl rfl rfl V.lenA V.lenA ?_
   refine V.mrun T_ok 2 rfl rfl ?_
   refine V.mstep rfl rfl rfl (fun w_ _ => V.elemP_run T_ok rfl rfl rfl rfl (by first | omega | decide) (by first | omega | decide) w_) ?_
   refine V.mstoreC (fun _ _ h_ => by obtain ⟨_, _, h1_, -, h2_⟩ := h_; exact (Fk_81.gr h1_).gr h2_) (fun _ _ a _ b hc => V.Fr.dup a b) rfl rfl rfl rfl sz3 rfl rfl rfl rfl rfl ?_
   refine V.mrun T_ok 2 rfl rfl ?_
   refine V.mstep rfl rfl rfl (fun w_ _ => V.elemP_run T_ok rfl rfl rfl rfl (by first | omega | decide) (by first | omega | decide) w_) ?_
   refine V.mstoreC (fun _ _ h_ => by obtain ⟨_, _, _, _, h2_⟩ := h_; exact h2_) (fun _ _ a _ b hc => V.Fr.dup a b) rfl rfl rfl rfl sz3 rfl rfl rfl rfl rfl ?_
   refine V.mnil ?_
   rintro w82 - ⟨w88, ⟨w86, ⟨w84, -, g0_, -, G85⟩, G87, -, -⟩, G89, -, Fk83⟩
   have z90 := V.Fr.size g0_
   have z91 := V.Fr.size G85
   clear Fk_81
   have z92 := V.Fr.size G87
   have z93 := V.Fr.size G89
   have Fk_81 := Fk83; clear Fk83
   try simp only [V.spliceL, V.cellsL] at Fk_81
   refine V.bN ?_
   refine V.tN ?_
   refine V.region ?_
   refine V.addN rfl rfl rfl rfl rfl V.lenA V.lenA ?_
   refine V.ru 1 ?_
   refine V.nt ?_
   refine V.rnd ?_
   refine V.sr ?_
   refine V.ru 1 ?_
   refine V.nt ?_
   refine V.seq ?_
   refine V.condY rfl rfl ?_
   refine V.skip ?_
   refine V.tN ?_
   refine V.seq ?_
   refine V.block ?_
   refine V.sr ?_
   refine V.ru 2 ?_
   refine V.nt ?_
   replace F_me := F_me.gr (g0_.trans G85)
   replace F_me := F_me.mv1 G87 (by (try dsimp only [V.In]); first | omega | grind)
   replace F_me := F_me.mv1 G89 (by (try dsimp only [V.In]); first | omega | grind)
   replace F_md := F_md.gr (g0_.trans G85)
   replace F_md := F_md.mv1 G87 (by (try dsimp only [V.In]); first | omega | grind)
   replace F_md := F_md.mv1 G89 (by (try dsimp only [V.In]); first | omega | grind)
   replace Fk2 := Fk2.gr (g0_.trans G85)
   replace Fk2 := Fk2.ma G87
   replace Fk2 := Fk2.ma G89
   replace FL_81 := FL_81.gr (g0_.trans G85)
   replace FL_81 := FL_81.mv1 G87 (by (try dsimp only [V.In]); first | omega | grind)
   replace FL_81 := FL_81.mv1 G89 (by (try dsimp only [V.In]); first | omega | grind)
   replace FQ_81 := FQ_81.gr (g0_.trans G85)
   replace FQ_81 := FQ_81.mv1 G87 (by (try dsimp only [V.In]); first | omega | grind)
   replace FQ_81 := FQ_81.mv1 G89 (by (try dsimp only [V.In]); first | omega | grind)
   replace HG := HG.grow (g0_.trans G85)
   replace HG := HG.n1 G87 (by first | (refine Or.inr ?_; omega) | (refine Or.inl ?_; first | assumption | (dsimp only; grind)) | grind)
   replace HG := HG.n1 G89 (by first | (refine Or.inr ?_; omega) | (refine Or.inl ?_; first | assumption | (dsimp only; grind)) | grind)
   refine V.drawM (fun w_ => V.Fr [k] w82 w_) (fun i => Nat.beq i 5 || Nat.beq i 10 || Nat.beq i 14) (fun _ g_ => g_.mono (by simp)) mixed (by kernel_rfl) (by kernel_rfl) ?_
   refine V.mrun T_ok 5 rfl rfl ?_
   refine V.mcall (R := fun w1_ v_ w2_ => v_ = .int .i64 (lastI ((turnV (setV d mg.fr) ((setV d mg.fr).te) (2 : Int) ((setV d mg.fr).id)).L)) ∧ Gr w1_ w2_) rfl (fun w1_ g_ h_ => rlast2_spec (Fk_81.gr h_) (FL_81.gr h_)) (by rintro wa va wb ca h_ ⟨_, G_⟩; exact (V.Fr.dup ca (G_.mono (by simp)))) rfl rfl rfl ?_
   rintro _ _ _ _ _ ⟨rfl, -⟩
   refine V.maddN rfl rfl rfl rfl rfl rfl V.lenA V.lenA ?_
   refine V.mrun T_ok 2 rfl rfl ?_
   refine V.mstep rfl rfl rfl (fun w_ _ => V.elemP_run T_ok rfl rfl rfl rfl (by first | omega | decide) (by first | omega | decide) w_) ?_
   refine V.mstoreC (fun _ _ h_ => by obtain ⟨_, _, h1_, -, h2_⟩ := h_; exact (Fk_81.gr h1_).gr h2_) (fun _ _ a _ b hc => V.Fr.dup a b) rfl rfl rfl rfl sz3 rfl rfl rfl rfl rfl ?_
   refine V.mrun T_ok 2 rfl rfl ?_
   refine V.mstep rfl rfl rfl (fun w_ _ => V.elemP_run T_ok rfl rfl rfl rfl (by first | omega | decide) (by first | omega | decide) w_) ?_
   refine V.mstoreC (fun _ _ h_ => by obtain ⟨_, _, _, _, h2_⟩ := h_; exact h2_) (fun _ _ a _ b hc => V.Fr.dup a b) rfl rfl rfl rfl sz3 rfl rfl rfl rfl rfl ?_
   refine V.mnil ?_
   rintro w94 - ⟨w100, ⟨w98, ⟨w96, -, g0_, -, G97⟩, G99, -, -⟩, G101, -, Fk95⟩
   have z102 := V.Fr.size g0_
   have z103 := V.Fr.size G97
   clear Fk_81
   have z104 := V.Fr.size G99
   have z105 := V.Fr.size G101
   have Fk_81 := Fk95; clear Fk95
   try simp only [V.spliceL, V.cellsL] at Fk_81
   refine V.bN ?_
   refine V.tN ?_
   refine V.region ?_
   refine V.addN rfl rfl rfl rfl rfl V.lenA V.lenA ?_
   refine V.ru 1 ?_
   refine V.nt ?_
   refine V.rnd ?_
   refine V.sr ?_
   refine V.ru 1 ?_
   refine V.nt ?_
   refine V.seq ?_
   refine V.condY rfl rfl ?_
   refine V.skip ?_
   refine V.tN ?_
   refine V.seq ?_
   refine V.block ?_
   refine V.sr ?_
   refine V.ru 2 ?_
   refine V.nt ?_
   replace F_me := F_me.gr (g0_.trans G97)
   replace F_me := F_me.mv1 G99 (by (try dsimp only [V.In]); first | omega | grind)
   replace F_me := F_me.mv1 G101 (by (try dsimp only [V.In]); first | omega | grind)
   replace F_md := F_md.gr (g0_.trans G97)
   replace F_md := F_md.mv1 G99 (by (try dsimp only [V.In]); first | omega | grind)
   replace F_md := F_md.mv1 G101 (by (try dsimp only [V.In]); first | omega | grind)
   replace Fk2 := Fk2.gr (g0_.trans G97)
   replace Fk2 := Fk2.ma G99
   replace Fk2 := Fk2.ma G101
   replace FL_81 := FL_81.gr (g0_.trans G97)
   replace FL_81 := FL_81.mv1 G99 (by (try dsimp only [V.In]); first | omega | grind)
   replace FL_81 := FL_81.mv1 G101 (by (try dsimp only [V.In]); first | omega | grind)
   replace FQ_81 := FQ_81.gr (g0_.trans G97)
   replace FQ_81 := FQ_81.mv1 G99 (by (try dsimp only [V.In]); first | omega | grind)
   replace FQ_81 := FQ_81.mv1 G101 (by (try dsimp only [V.In]); first | omega | grind)
   replace HG := HG.grow (g0_.trans G97)
   replace HG := HG.n1 G99 (by first | (refine Or.inr ?_; omega) | (refine Or.inl ?_; first | assumption | (dsimp only; grind)) | grind)
   replace HG := HG.n1 G101 (by first | (refine Or.inr ?_; omega) | (refine Or.inl ?_; first | assumption | (dsimp only; grind)) | grind)
   refine V.drawM (fun w_ => V.Fr [k] w94 w_) (fun i => Nat.beq i 5 || Nat.beq i 10 || Nat.beq i 14) (fun _ g_ => g_.mono (by simp)) mixed (by kernel_rfl) (by kernel_rfl) ?_
   refine V.mrun T_ok 5 rfl rfl ?_
   refine V.mcall (R := fun w1_ v_ w2_ => v_ = .int .i64 (lastI ((turnV (setV d mg.fr) ((setV d mg.fr).te) (2 : Int) ((setV d mg.fr).id)).L)) ∧ Gr w1_ w2_) rfl (fun w1_ g_ h_ => rlast2_spec (Fk_81.gr h_) (FL_81.gr h_)) (by rintro wa va wb ca h_ ⟨_, G_⟩; exact (V.Fr.dup ca (G_.mono (by simp)))) rfl rfl rfl ?_
   rintro _ _ _ _ _ ⟨rfl, -⟩
   refine V.maddN rfl rfl rfl rfl rfl rfl V.lenA V.lenA ?_
   refine V.mrun T_ok 2 rfl rfl ?_
   refine V.mstep rfl rfl rfl (fun w_ _ => V.elemP_run T_ok rfl rfl rfl rfl (by first | omega | decide) (by first | omega | decide) w_) ?_
   refine V.mstoreC (fun _ _ h_ => by obtain ⟨_, _, h1_, -, h2_⟩ := h_; exact (Fk_81.gr h1_).gr h2_) (fun _ _ a _ b hc => V.Fr.dup a b) rfl rfl rfl rfl sz3 rfl rfl rfl rfl rfl ?_
   refine V.mrun T_ok 2 rfl rfl ?_
   refine V.mstep rfl rfl rfl (fun w_ _ => V.elemP_run T_ok rfl rfl rfl rfl (by first | omega | decide) (by first | omega | decide) w_) ?_
   refine V.mstoreC (fun _ _ h_ => by obtain ⟨_, _, _, _, h2_⟩ := h_; exact h2_) (fun _ _ a _ b hc => V.Fr.dup a b) rfl rfl rfl rfl sz3 rfl rfl rfl rfl rfl ?_
   refine V.mnil ?_
   rintro w106 - ⟨w112, ⟨w110, ⟨w108, -, g0_, -, G109⟩, G111, -, -⟩, G113, -, Fk107⟩
   have z114 := V.Fr.size g0_
   have z115 := V.Fr.size G109
   clear Fk_81
   have z116 := V.Fr.size G111
   have z117 := V.Fr.size G113
   have Fk_81 := Fk107; clear Fk107
   try simp only [V.spliceL, V.cellsL] at Fk_81
   refine V.bN ?_
   refine V.tN ?_
   refine V.region ?_
   refine V.addN rfl rfl rfl rfl rfl V.lenA V.lenA ?_
   refine V.ru 1 ?_
   refine V.nt ?_
   refine V.rnd ?_
   refine V.sr ?_
   refine V.ru 1 ?_
   refine V.nt ?_
   refine V.seq ?_
   refine V.condN rfl rfl ?_
   refine V.exit ?_
   refine V.tX ?_
   refine V.tX ?_
   refine V.bE ?_
   refine V.tN ?_
   refine V.seq ?_
   replace FL_81 := FL_81.gr (g0_.trans G109)
   replace FL_81 := FL_81.mv1 G111 (by (try dsimp only [V.In]); first | omega | grind)
   replace FL_81 := FL_81.mv1 G113 (by (try dsimp only [V.In]); first | omega | grind)
   replace FQ_81 := FQ_81.gr (g0_.trans G109)
   replace FQ_81 := FQ_81.mv1 G111 (by (try dsimp only [V.In]); first | omega | grind)
   replace FQ_81 := FQ_81.mv1 G113 (by (try dsimp only [V.In]); first | omega | grind)
   have F118 : Nd w106 k M D ({ turnV (setV d mg.fr) (setV d mg.fr).te 2 (setV d mg.fr).id with x0 := lastI ((turnV (setV d mg.fr) ((setV d mg.fr).te) (2 : Int) ((setV d mg.fr).id)).L) + 1, x1 := lastI ((turnV (setV d mg.fr) ((setV d mg.fr).te) (2 : Int) ((setV d mg.fr).id)).L) + 1, x2 := lastI ((turnV (setV d mg.fr) ((setV d mg.fr).te) (2 : Int) ((setV d mg.fr).id)).L) + 1, m0 := 0, m1 := 0, m2 := 0 }) := ⟨⟨hid_81, hrg_81, hte_81, hco_81, by dsimp only; omega, by dsimp only; omega, by dsimp only; omega, by dsimp only; omega, by dsimp only; omega, by dsimp only; omega, hda_81⟩, _, _, _, _, _, _, _, _, _, _, _, _, (hP_81.up (by omega)), hc_81, Fk_81, FL_81, FQ_81⟩
   clear Fk_81 FL_81 FQ_81
   have hr119 : { turnV (setV d mg.fr) (setV d mg.fr).te 2 (setV d mg.fr).id with x0 := lastI ((turnV (setV d mg.fr) ((setV d mg.fr).te) (2 : Int) ((setV d mg.fr).id)).L) + 1, x1 := lastI ((turnV (setV d mg.fr) ((setV d mg.fr).te) (2 : Int) ((setV d mg.fr).id)).L) + 1, x2 := lastI ((turnV (setV d mg.fr) ((setV d mg.fr).te) (2 : Int) ((setV d mg.fr).id)).L) + 1, m0 := 0, m1 := 0, m2 := 0 } = leadV (setV d mg.fr) := rfl
   rw [hr119] at F118
   clear hr119
   have hn2 : (leadV (setV d mg.fr)).nc + 1 ≤ 1000000 := hn
   have hL2 : (leadV (setV d mg.fr)).L.l.length + 1 ≤ 1000000 := hL
   refine V.region ?_
   refine V.ru 1 ?_
   refine V.call (more_spec F118 (Sl.nil _ _ V.None' _ _ (Nat.zero_le _)) (fun _ h => h.elim) (by first | assumption | omega) (by first | assumption | omega) (by first | assumption | omega | simp)) rfl rfl rfl ?_
   rintro _ w125 ⟨M120, D121, rfl, F122, h123, h124, G126⟩
   have z127 := V.FrE.size G126
   refine V.nt ?_
   have hs2 : (moreV (leadV (setV d mg.fr)) []).out.length + 3 ≤ 1000000 := by rw [more_out]; exact hs
   refine V.region ?_
   refine V.ru 3 ?_
   refine V.call (oth_send F122 (by first | assumption | omega)) rfl rfl rfl ?_
   rintro _ w133 ⟨M128, D129, rfl, F130, h131, h132, G134⟩
   have z135 := V.FrE.size G134
   refine V.nil ?_
   rw [show votedV d mg = othV sendV (moreV (leadV (setV d mg.fr)) []) 3 from (if_pos hyes).trans (if_neg (by rw [hcn]; omega))]
   refine V.doneN rfl ?_
   replace HG := HG.grow (g0_.trans G109)
   replace HG := HG.n1 G111 (by first | (refine Or.inr ?_; omega) | (refine Or.inl ?_; first | assumption | (dsimp only; grind)) | grind)
   replace HG := HG.n1 G113 (by first | (refine Or.inr ?_; omega) | (refine Or.inl ?_; first | assumption | (dsimp only; grind)) | grind)
   replace HG := HG.stepE G126 (by intro i h; (try dsimp only [V.In] at h ⊢); first | omega | grind)
   replace HG := HG.stepE G134 (by intro i h; (try dsimp only [V.In] at h ⊢); first | omega | grind)
   exact ⟨_, _, (by first | rfl | simp only [List.length_set]), F130, (by intro j h; (try dsimp only [V.In] at *); grind), (by intro j h; (try dsimp only [V.In] at *); grind), HG⟩

end Go.Proofs.Ytphohfpbdkgnaaa
