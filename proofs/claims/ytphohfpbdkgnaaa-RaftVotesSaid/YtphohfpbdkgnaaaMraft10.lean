/- Proved here: walks: what functions of this seat's program return and what they leave of memory, each as a contract. Conditions: stated at each theorem. -/
import Derived.Test.YtphohfpbdkgnaaaMraft9
namespace Go.Proofs.Ytphohfpbdkgnaaa
set_option linter.unusedVariables false
set_option linter.unusedSimpArgs false
open Go
open V (Bytes Meets Env Sl Own Gr Fr Cells S)

theorem comF_yes {d : NodeV} {i : Int} (h : d.co < i) (hh : hadV d i = true) : comF d (i - d.co).toNat = i := by
  obtain ⟨n, hn⟩ : ∃ n : Nat, (i - d.co).toNat = n + 1 := ⟨(i - d.co).toNat - 1, by omega⟩
  rw [hn, comF]
  have e : d.co + n + 1 = i := by omega
  rw [e, if_pos hh]
theorem comF_end {d : NodeV} {i c : Int} {n : Nat} (h : ¬ c < i) (hd : (c = d.co ∧ comF d n = comF d (i - d.co).toNat) ∨ (c = comF d n ∧ i = c - 1)) : c = comF d n := by
  rcases hd with ⟨h1, h2⟩ | ⟨h1, -⟩
  · rw [h2, show (i - d.co).toNat = 0 by omega]; exact h1
  · exact h1
theorem comF_no {d : NodeV} {i : Int} (h : d.co < i) (hh : ¬ hadV d i = true) : comF d (i - d.co).toNat = comF d (i - 1 - d.co).toNat := by
  obtain ⟨n, hn⟩ : ∃ n : Nat, (i - d.co).toNat = n + 1 := ⟨(i - d.co).toNat - 1, by omega⟩
  have e2 : (i - 1 - d.co).toNat = n := by omega
  rw [hn, e2, comF]
  have e : d.co + n + 1 = i := by omega
  rw [e, if_neg hh]

set_option maxHeartbeats 4000000 in
set_option maxRecDepth 10000 in
theorem apd_spec {w : World} {k : Nat} {M D : Nat → Prop} {d : NodeV} (FX : Nd w k M D d) {mg : RMsg} {q0 : Int} {q1 : Int} {q2 : Int} {q3 : Int} {q4 : Int} {q5 : Int} {q6 : Int} {q7 : Int} {q8 : ByteArray} {q9 : Int} {q10 : Int} {q11 : Int} {q12 : ByteArray} {q13 : ByteArray} {q14 : ByteArray} {q15 : Bool} {q16 : Int} {q17 : Int} {q18 : Int} {q19 : Int} {q20 : Bool} {q21 : Bool} {q22a : Option Addr} {q22n q22c : Nat} {q23 : Int} {q24 : Int} {q25 : Int} {q26 : Int} {q27a : Option Addr} {q27n q27c : Nat} {q28 : Bool} {q29 : Int} {q30 : Int} {q31 : ByteArray} {q32 : Int} {q33 : Int} {q34 : Int} {q35 : Int} {q36 : Int} {q37 : Int} {q38 : Int} {q39 : Int} {q40 : Int} {q41a : Option Addr} {q41n q41c : Nat} {D_me : Nat → Prop} {c_me : Nat} {a_me : Option Addr} (F_me : Sl V.Cod.ent w D_me a_me c_me mg.es) (hD_me : ∀ k, D_me k → k < w.heap.size) {D_md : Nat → Prop} {c_md : Nat} {a_md : Option Addr} (F_md : Sl V.Cod.byte w D_md a_md c_md mg.da) (hD_md : ∀ k, D_md k → k < w.heap.size)  (hMe : ∀ j, D_me j → ¬ M j) (hMm : ∀ j, D_md j → ¬ M j) (hf : 0 ≤ mg.fr ∧ mg.fr ≤ 2) (hix : 0 ≤ mg.ix ∧ mg.ix ≤ 1099511627776) (hs : d.out.length + 1 ≤ 1000000) :
    Meets Try.prog 55 [.pointer (some ⟨k, 0, none⟩), .agg #[.int .i64 mg.kd, .int .i64 mg.fr, .int .i64 mg.to, .int .i64 mg.rg, .int .i64 mg.te, .int .i64 mg.ix, .int .i64 mg.lt, .int .i64 mg.co, .bool mg.ok, .slice a_me mg.es.length c_me, .slice a_md mg.da.length c_md, .int .i64 q0, .int .i64 q1, .int .i64 q2, .int .i64 q3, .int .i64 q4, .int .i64 q5, .int .i64 q6, .int .i64 q7, .string q8, .int .i64 q9, .int .i64 q10, .int .i64 q11, .string q12, .string q13, .string q14, .bool q15, .int .i64 q16, .int .i64 q17, .int .i64 q18, .int .i64 q19, .bool q20, .bool q21, .slice q22a q22n q22c, .int .i64 q23, .int .i64 q24, .int .i64 q25, .int .i64 q26, .slice q27a q27n q27c, .bool q28, .int .i64 q29, .int .i64 q30, .string q31, .int .i64 q32, .int .i64 q33, .int .i64 q34, .int .i64 q35, .int .i64 q36, .int .i64 q37, .int .i64 q38, .int .i64 q39, .int .i64 q40, .slice q41a q41n q41c]] w fun r w' => ∃ (rM37 : Nat → Prop) (rD37 : Nat → Prop), r = .tuple #[] ∧ Nd w' k rM37 rD37 (apdV d mg) ∧ (∀ j, rM37 j → M j ∨ w.heap.size ≤ j) ∧ (∀ j, rD37 j → D j ∨ M j ∨ w.heap.size ≤ j) ∧ V.FrE M w w' := by
 have hM := FX.lm
 have hk0 := FX.lm _ FX.mk'
 have hD := FX.ld
 have hMD := FX.dj
 have hMk := FX.mk'
 have HG := V.FrE.refl M w
 refine V.enter (n := 105) Try.func55 rfl rfl (by decide) rfl ?_
 refine V.sr ?_
 refine V.box rfl rfl rfl rfl ?_
 rintro k1 w3 s5 s6 G4 Fk2
 have z7 := V.Fr.size G4
 try simp only [V.cellsL, V.spliceL] at Fk2
 refine V.nt ?_
 refine V.seq ?_
 rcases (show mg.fr = 0 ∨ mg.fr = 1 ∨ mg.fr = 2 by omega) with hcs | hcs | hcs
 ·
  replace FX := FX.gr G4
  obtain ⟨kl_8, g_8, B_8, SO_8, SC_8, ad_8, cd_8, ao_8, co_8, ac_8, cc_8, ch_8, hP_8, hc_8, Fk_8, FL_8, FQ_8⟩ := FX.ex
  obtain ⟨hid_8, hrg_8, hte_8, hco_8, hx0_8, hx1_8, hx2_8, hm0_8, hm1_8, hm2_8, hda_8⟩ := FX.ok
  have nk_8 := hP_8.nk
  have nl_8 := hP_8.nl
  have ng_8 := hP_8.ng
  have kL_8 := hP_8.kL
  have lq_8 := hP_8.lq
  have bd_8 := hP_8.d
  obtain ⟨mk_8, ml_8, mg_8⟩ := hP_8.m
  have hA_8 := hP_8.a
  have lm_8 := hP_8.lm
  have ld_8 := hP_8.ld
  have hLo_8 := FL_8.ok
  have hLd_8 := FL_8.dl
  have hLg_8 := FL_8.gl
  have hLk_8 := FL_8.lt
  have hLb_8 := FL_8.bl
  have hkl_8 := Fk_8.lt
  refine V.region ?_
  refine V.ru 1 ?_
  have Fc9 := Fk2
  rw [hcs] at Fc9
  refine V.loadO T_ok Fc9 rfl rfl rfl rfl rfl ?_
  refine V.ru 1 ?_
  refine V.nt ?_
  refine V.seq ?_
  refine V.block ?_
  replace F_me := F_me.gr G4
  replace F_md := F_md.gr G4
  replace HG := HG.grow G4
  refine V.seqJ (fun e v11 => V.FrE M w v11 ∧ w3.heap.size ≤ v11.heap.size ∧ Nd v11 k M D d ∧ Sl V.Cod.ent v11 D_me a_me c_me mg.es ∧ Sl V.Cod.byte v11 D_md a_md c_md mg.da ∧ Cells v11 k1 [.int .i64 mg.kd, .int .i64 mg.fr, .int .i64 mg.to, .int .i64 mg.rg, .int .i64 mg.te, .int .i64 mg.ix, .int .i64 mg.lt, .int .i64 mg.co, .bool mg.ok, .slice a_me mg.es.length c_me, .slice a_md mg.da.length c_md, .int .i64 q0, .int .i64 q1, .int .i64 q2, .int .i64 q3, .int .i64 q4, .int .i64 q5, .int .i64 q6, .int .i64 q7, .string q8, .int .i64 q9, .int .i64 q10, .int .i64 q11, .string q12, .string q13, .string q14, .bool q15, .int .i64 q16, .int .i64 q17, .int .i64 q18, .int .i64 q19, .bool q20, .bool q21, .slice q22a q22n q22c, .int .i64 q23, .int .i64 q24, .int .i64 q25, .int .i64 q26, .slice q27a q27n q27c, .bool q28, .int .i64 q29, .int .i64 q30, .string q31, .int .i64 q32, .int .i64 q33, .int .i64 q34, .int .i64 q35, .int .i64 q36, .int .i64 q37, .int .i64 q38, .int .i64 q39, .int .i64 q40, .slice q41a q41n q41c] 57 ∧ Cells v11 k [.int .i64 d.id, .int .i64 d.rg, .int .i64 d.te, .int .i64 d.vo, .int .i64 d.ro, .int .i64 d.le, .pointer (some ⟨kl_8, 0, none⟩), .int .i64 d.co, .slice ad_8 d.da.length cd_8, .bool d.v0, .bool d.v1, .bool d.v2, .int .i64 d.x0, .int .i64 d.x1, .int .i64 d.x2, .int .i64 d.m0, .int .i64 d.m1, .int .i64 d.m2, .slice ao_8 d.out.length co_8, .slice ac_8 ch_8.length cc_8] 101 ∧ Lg v11 kl_8 g_8 B_8 d.L ∧ Nq v11 SO_8 SC_8 D ad_8 cd_8 ao_8 co_8 ac_8 cc_8 ch_8 d.da d.out ∧ e 0 = .pointer (some ⟨k, 0, none⟩) ∧ e 3 = .pointer (some ⟨k1, 0, none⟩) ∧ e 4 = .int .i64 0 ∧ e 8 = .bool (decide (¬ mg.te = d.te) || decide (¬ d.ro = 2)) ∧ True) ?_ ?_
  ·
   refine V.drawQ mixed (by kernel_rfl) ?_
   refine V.qrun T_ok 1 rfl ?_
   refine V.qloadO T_ok Fk2 rfl rfl rfl rfl rfl ?_
   refine V.qrun T_ok 3 rfl ?_
   refine V.qloadO T_ok Fk_8 rfl rfl rfl rfl rfl ?_
   refine V.qrun T_ok 2 rfl ?_
   refine V.qsplit (j := 7) (t := 16) rfl rfl (fun g2_7 => ?_) (fun g2_7 => ?_)
   ·
    try replace g2_7 := V.dec g2_7
    try simp only [V.mk] at g2_7
    refine V.qrun T_ok 7 rfl ?_
    refine V.qnil ?_
    rintro w12 G13
    have z14 := V.Fr.size G13
    refine V.tN ?_
    replace FX := FX.gr G13
    replace F_me := F_me.gr G13
    replace F_md := F_md.gr G13
    replace Fk2 := Fk2.gr G13
    replace Fk_8 := Fk_8.gr G13
    replace FL_8 := FL_8.gr G13
    replace FQ_8 := FQ_8.gr G13
    replace HG := HG.grow G13
    exact ⟨HG, (by omega), FX, F_me, F_md, Fk2, Fk_8, FL_8, FQ_8, rfl, rfl, rfl, (congrArg Value.bool (by first | rfl | (simp_all; done) | grind)), trivial⟩
   ·
    try replace g2_7 := V.dec g2_7
    try simp only [V.mk] at g2_7
    refine V.qrun T_ok 3 rfl ?_
    refine V.qyes rfl rfl rfl ?_
    refine V.qloadO T_ok Fk_8 rfl rfl rfl rfl rfl ?_
    refine V.qrun T_ok 3 rfl ?_
    refine V.qnil ?_
    rintro w15 G16
    have z17 := V.Fr.size G16
    refine V.tN ?_
    replace FX := FX.gr G16
    replace F_me := F_me.gr G16
    replace F_md := F_md.gr G16
    replace Fk2 := Fk2.gr G16
    replace Fk_8 := Fk_8.gr G16
    replace FL_8 := FL_8.gr G16
    replace FQ_8 := FQ_8.gr G16
    replace HG := HG.grow G16
    exact ⟨HG, (by omega), FX, F_me, F_md, Fk2, Fk_8, FL_8, FQ_8, rfl, rfl, rfl, (congrArg Value.bool (by first | rfl | (simp_all; done) | grind)), trivial⟩
  clear HG FX F_me F_md Fk2 Fk_8 FL_8 FQ_8
  rintro e v11 ⟨HG, z18, FX, F_me, F_md, Fk2, Fk_8, FL_8, FQ_8, hjn10_0, hjn10_3, hjn10_4, hjn10_8, -⟩
  refine V.knownC (t := 0) hjn10_0 ?_
  refine V.knownC (t := 3) hjn10_3 ?_
  refine V.knownC (t := 4) hjn10_4 ?_
  refine V.knownC (t := 8) hjn10_8 ?_
  refine V.condT rfl (fun h2 => ?_) (fun h2 => ?_)
  ·
   try replace h2 := V.dec h2
   try simp only [V.mk] at h2
   have hno : ¬ (mg.te = d.te ∧ d.ro = 2) := by (try simp at h2); grind
   refine V.ret ?_
   refine V.bR ?_
   refine V.tR ?_
   rw [show apdV d mg = d from if_neg hno]
   refine V.done rfl ?_
   exact ⟨_, _, (by first | rfl | simp only [List.length_set]), FX, (by intro j h; (try dsimp only [V.In] at *); grind), (by intro j h; (try dsimp only [V.In] at *); grind), HG⟩
  ·
   try replace h2 := V.dec h2
   try simp only [V.mk] at h2
   have hyes : mg.te = d.te ∧ d.ro = 2 := by (try simp at h2); grind
   refine V.sr ?_
   refine V.ru 1 ?_
   refine V.loadO T_ok Fk2 rfl rfl rfl rfl rfl ?_
   refine V.ru 2 ?_
   refine V.nt ?_
   refine V.condT rfl (fun h3 => ?_) (fun h3 => ?_)
   ·
    try replace h3 := V.dec h3
    try simp only [V.mk] at h3
    have hok : ¬ mg.ok = true := by (have h3b := h3; simpa using h3b)
    refine V.seq ?_
    obtain ⟨kl_19, g_19, B_19, SO_19, SC_19, ad_19, cd_19, ao_19, co_19, ac_19, cc_19, ch_19, hP_19, hc_19, Fk_19, FL_19, FQ_19⟩ := FX.ex
    obtain ⟨hid_19, hrg_19, hte_19, hco_19, hx0_19, hx1_19, hx2_19, hm0_19, hm1_19, hm2_19, hda_19⟩ := FX.ok
    have nk_19 := hP_19.nk
    have nl_19 := hP_19.nl
    have ng_19 := hP_19.ng
    have kL_19 := hP_19.kL
    have lq_19 := hP_19.lq
    have bd_19 := hP_19.d
    obtain ⟨mk_19, ml_19, mg_19⟩ := hP_19.m
    have hA_19 := hP_19.a
    have lm_19 := hP_19.lm
    have ld_19 := hP_19.ld
    have hLo_19 := FL_19.ok
    have hLd_19 := FL_19.dl
    have hLg_19 := FL_19.gl
    have hLk_19 := FL_19.lt
    have hLb_19 := FL_19.bl
    have hkl_19 := Fk_19.lt
    clear FX
    refine V.drawT 17 mixed (by kernel_rfl) ?_
    rintro w20 G21 s22
    have z23 := V.Fr.size G21
    refine V.qrun T_ok 6 rfl ?_
    refine V.qelemP T_ok rfl rfl rfl rfl rfl rfl (by first | omega | decide) (by first | omega | decide) ?_
    replace Fk_19 := Fk_19.gr G21
    refine V.qloadO T_ok Fk_19 rfl rfl rfl rfl rfl ?_
    refine V.qsubN rfl rfl rfl rfl rfl V.lenA V.lenA ?_
    refine V.qrun T_ok 1 rfl ?_
    replace Fk2 := Fk2.gr G21
    refine V.qloadO T_ok Fk2 rfl rfl rfl rfl rfl ?_
    refine V.qaddN rfl rfl rfl rfl rfl V.lenA V.lenA ?_
    refine V.qrun T_ok 4 rfl ?_
    refine V.qelemP T_ok rfl rfl rfl rfl rfl rfl (by first | omega | decide) (by first | omega | decide) ?_
    refine V.qnil ?_
    refine V.storeO Fk_19 rfl rfl rfl rfl sz3 rfl rfl rfl rfl ?_
    rintro w24 G25 z27 Fs26
    clear Fk_19
    have z28 := V.Fr.size G25
    have Fk_19 := Fs26; clear Fs26
    simp only [V.spliceL, V.cellsL] at Fk_19
    refine V.nt ?_
    refine V.seq ?_
    replace FL_19 := FL_19.gr G21
    replace FL_19 := FL_19.mv1 G25 (by (try dsimp only [V.In]); first | omega | grind)
    replace FQ_19 := FQ_19.gr G21
    replace FQ_19 := FQ_19.mv1 G25 (by (try dsimp only [V.In]); first | omega | grind)
    have F29 : Nd w24 k M D ({ d with x0 := max (min (d.x0 - 1) (mg.ix + 1)) 1 }) := ⟨⟨hid_19, hrg_19, hte_19, hco_19, ⟨by dsimp only; omega, by dsimp only; omega⟩, hx1_19, hx2_19, hm0_19, hm1_19, hm2_19, hda_19⟩, _, _, _, _, _, _, _, _, _, _, _, _, (hP_19.up (by omega)), hc_19, Fk_19, FL_19, FQ_19⟩
    clear Fk_19 FL_19 FQ_19
    have hr30 : { d with x0 := max (min (d.x0 - 1) (mg.ix + 1)) 1 } = setX d mg.fr (max (min (getX d mg.fr - 1) (mg.ix + 1)) 1) := (by unfold setX getX; rw [hcs]; rfl)
    rw [hr30] at F29
    clear hr30
    have hs1 : (setX d mg.fr (max (min (getX d mg.fr - 1) (mg.ix + 1)) 1)).out.length + 1 ≤ 1000000 := hs
    refine V.region ?_
    refine V.ru 2 ?_
    refine V.call (send_spec (to := 0) F29 ⟨by omega, by omega⟩ (by first | assumption | omega)) rfl rfl rfl ?_
    rintro _ w36 ⟨M31, D32, rfl, F33, h34, h35, G37⟩
    have z38 := V.FrE.size G37
    refine V.nt ?_
    refine V.ret ?_
    refine V.bR ?_
    refine V.tR ?_
    rw [show apdV d mg = sendV (setX d mg.fr (max (min (getX d mg.fr - 1) (mg.ix + 1)) 1)) (0 : Int) from by (unfold apdV; rw [if_pos hyes, if_neg hok]; simp only [hcs])]
    refine V.done rfl ?_
    replace HG := HG.grow G21
    replace HG := HG.n1 G25 (by first | (refine Or.inr ?_; omega) | (refine Or.inl ?_; first | assumption | (dsimp only; grind)) | grind)
    replace HG := HG.stepE G37 (by intro i h; (try dsimp only [V.In] at h ⊢); first | omega | grind)
    exact ⟨_, _, (by first | rfl | simp only [List.length_set]), F33, (by intro j h; (try dsimp only [V.In] at *); grind), (by intro j h; (try dsimp only [V.In] at *); grind), HG⟩
   ·
    try replace h3 := V.dec h3
    try simp only [V.mk] at h3
    have hok : mg.ok = true := by (have h3b := h3; simpa using h3b)
    refine V.skip ?_
    refine V.bN ?_
    refine V.tN ?_
    refine V.seq ?_
    obtain ⟨kl_39, g_39, B_39, SO_39, SC_39, ad_39, cd_39, ao_39, co_39, ac_39, cc_39, ch_39, hP_39, hc_39, Fk_39, FL_39, FQ_39⟩ := FX.ex
    obtain ⟨hid_39, hrg_39, hte_39, hco_39, hx0_39, hx1_39, hx2_39, hm0_39, hm1_39, hm2_39, hda_39⟩ := FX.ok
    have nk_39 := hP_39.nk
    have nl_39 := hP_39.nl
    have ng_39 := hP_39.ng
    have kL_39 := hP_39.kL
    have lq_39 := hP_39.lq
    have bd_39 := hP_39.d
    obtain ⟨mk_39, ml_39, mg_39⟩ := hP_39.m
    have hA_39 := hP_39.a
    have lm_39 := hP_39.lm
    have ld_39 := hP_39.ld
    have hLo_39 := FL_39.ok
    have hLd_39 := FL_39.dl
    have hLg_39 := FL_39.gl
    have hLk_39 := FL_39.lt
    have hLb_39 := FL_39.bl
    have hkl_39 := Fk_39.lt
    clear FX
    have hli : lastI d.L = d.L.base + d.L.l.length := rfl
    refine V.drawGT 16 (V.sel [(11, (fun v wz => v = .int .i64 (lastI d.L)))]) mixed (by kernel_rfl) (V.mono_cons V.eqV_mono V.mono_nil) ?_
    refine V.grun T_ok 6 rfl (V.sel_none rfl) ?_
    refine V.gstep rfl rfl rfl (fun w_ _ => V.elemP_run T_ok rfl rfl rfl rfl (by first | omega | decide) (by first | omega | decide) w_) ?_
    refine V.gloadO T_ok (fun w' h => Fk_39.gr h.1) rfl rfl rfl rfl rfl rfl ?_
    refine V.grun T_ok 1 rfl (V.sel_none rfl) ?_
    refine V.gloadO T_ok (fun w' h => Fk2.gr h.1) rfl rfl rfl rfl rfl rfl ?_
    refine V.grun T_ok 1 rfl (V.sel_none rfl) ?_
    refine V.gcall (fun w' h => (rlast2_spec (Fk_39.gr h.1) (FL_39.gr h.1)).mono (by rintro v w'' ⟨rfl, G⟩; exact ⟨rfl, G⟩)) rfl rfl rfl rfl ?_
    rintro _ w40 - - rfl
    refine V.grun T_ok 4 rfl (V.sel_none rfl) ?_
    refine V.gnil ?_
    rintro w41 G42 hH43
    have z44 := V.Fr.size G42
    clear hH43
    refine V.elemP T_ok rfl rfl rfl rfl rfl rfl (by first | omega | decide) (by first | omega | decide) ?_
    replace Fk_39 := Fk_39.gr G42
    refine V.storeO Fk_39 rfl rfl rfl rfl sz3 rfl rfl rfl rfl ?_
    rintro w45 G46 z48 Fs47
    clear Fk_39
    have z49 := V.Fr.size G46
    have Fk_39 := Fs47; clear Fs47
    simp only [V.spliceL, V.cellsL] at Fk_39
    refine V.nt ?_
    refine V.seq ?_
    refine V.drawT 12 mixed (by kernel_rfl) ?_
    rintro w50 G51 s52
    have z53 := V.Fr.size G51
    refine V.qrun T_ok 6 rfl ?_
    refine V.qelemP T_ok rfl rfl rfl rfl rfl rfl (by first | omega | decide) (by first | omega | decide) ?_
    replace Fk_39 := Fk_39.gr G51
    refine V.qloadO T_ok Fk_39 rfl rfl rfl rfl rfl ?_
    refine V.qaddN rfl rfl rfl rfl rfl V.lenA V.lenA ?_
    refine V.qrun T_ok 2 rfl ?_
    refine V.qelemP T_ok rfl rfl rfl rfl rfl rfl (by first | omega | decide) (by first | omega | decide) ?_
    refine V.qnil ?_
    refine V.storeO Fk_39 rfl rfl rfl rfl sz3 rfl rfl rfl rfl ?_
    rintro w54 G55 z57 Fs56
    clear Fk_39
    have z58 := V.Fr.size G55
    have Fk_39 := Fs56; clear Fs56
    simp only [V.spliceL, V.cellsL] at Fk_39
    refine V.nt ?_
    refine V.seq ?_
    refine V.seq ?_
    replace FL_39 := FL_39.gr G42
    replace FL_39 := FL_39.mv1 G46 (by (try dsimp only [V.In]); first | omega | grind)
    replace FL_39 := FL_39.gr G51
    replace FL_39 := FL_39.mv1 G55 (by (try dsimp only [V.In]); first | omega | grind)
    replace FQ_39 := FQ_39.gr G42
    replace FQ_39 := FQ_39.mv1 G46 (by (try dsimp only [V.In]); first | omega | grind)
    replace FQ_39 := FQ_39.gr G51
    replace FQ_39 := FQ_39.mv1 G55 (by (try dsimp only [V.In]); first | omega | grind)
    have F59 : Nd w54 k M D ({ d with m0 := max d.m0 (min mg.ix (lastI d.L)), x0 := max d.m0 (min mg.ix (lastI d.L)) + 1 }) := ⟨⟨hid_39, hrg_39, hte_39, hco_39, ⟨by dsimp only; omega, by dsimp only; omega⟩, hx1_39, hx2_39, ⟨by dsimp only; omega, by dsimp only; omega⟩, hm1_39, hm2_39, hda_39⟩, _, _, _, _, _, _, _, _, _, _, _, _, (hP_39.up (by omega)), hc_39, Fk_39, FL_39, FQ_39⟩
    clear Fk_39 FL_39 FQ_39
    have hr60 : { d with m0 := max d.m0 (min mg.ix (lastI d.L)), x0 := max d.m0 (min mg.ix (lastI d.L)) + 1 } = apd2 d mg := (by unfold apd2 setX setM getM; rw [hcs]; rfl)
    rw [hr60] at F59
    clear hr60
    have hE1 : lastI (apd2 d mg).L = lastI d.L := rfl
    have hE2 : (apd2 d mg).co = d.co := rfl
    refine V.region ?_
    refine V.ru 1 ?_
    refine V.call (rlast_spec F59) rfl rfl rfl ?_
    rintro _ w61 ⟨rfl, G62⟩
    have z63 := V.Fr.size G62
    refine V.ru 1 ?_
    refine V.nt ?_
    refine V.block ?_
    replace F_me := F_me.gr G42
    replace F_me := F_me.mv1 G46 (by (try dsimp only [V.In]); first | omega | grind)
    replace F_me := F_me.gr G51
    replace F_me := F_me.mv1 G55 (by (try dsimp only [V.In]); first | omega | grind)
    replace F_me := F_me.gr G62
    replace F_md := F_md.gr G42
    replace F_md := F_md.mv1 G46 (by (try dsimp only [V.In]); first | omega | grind)
    replace F_md := F_md.gr G51
    replace F_md := F_md.mv1 G55 (by (try dsimp only [V.In]); first | omega | grind)
    replace F_md := F_md.gr G62
    replace Fk2 := Fk2.gr G42
    replace Fk2 := Fk2.ma G46
    replace Fk2 := Fk2.gr G51
    replace Fk2 := Fk2.ma G55
    replace Fk2 := Fk2.gr G62
    replace F59 := F59.gr G62
    replace HG := HG.grow G42
    replace HG := HG.n1 G46 (by first | (refine Or.inr ?_; omega) | (refine Or.inl ?_; first | assumption | (dsimp only; grind)) | grind)
    replace HG := HG.grow G51
    replace HG := HG.n1 G55 (by first | (refine Or.inr ?_; omega) | (refine Or.inl ?_; first | assumption | (dsimp only; grind)) | grind)
    replace HG := HG.grow G62
    refine V.loopM (fun m e v65 => V.FrE M w v65 ∧ w61.heap.size ≤ v65.heap.size ∧ Sl V.Cod.ent v65 D_me a_me c_me mg.es ∧ Sl V.Cod.byte v65 D_md a_md c_md mg.da ∧ Cells v65 k1 [.int .i64 mg.kd, .int .i64 mg.fr, .int .i64 mg.to, .int .i64 mg.rg, .int .i64 mg.te, .int .i64 mg.ix, .int .i64 mg.lt, .int .i64 mg.co, .bool mg.ok, .slice a_me mg.es.length c_me, .slice a_md mg.da.length c_md, .int .i64 q0, .int .i64 q1, .int .i64 q2, .int .i64 q3, .int .i64 q4, .int .i64 q5, .int .i64 q6, .int .i64 q7, .string q8, .int .i64 q9, .int .i64 q10, .int .i64 q11, .string q12, .string q13, .string q14, .bool q15, .int .i64 q16, .int .i64 q17, .int .i64 q18, .int .i64 q19, .bool q20, .bool q21, .slice q22a q22n q22c, .int .i64 q23, .int .i64 q24, .int .i64 q25, .int .i64 q26, .slice q27a q27n q27c, .bool q28, .int .i64 q29, .int .i64 q30, .string q31, .int .i64 q32, .int .i64 q33, .int .i64 q34, .int .i64 q35, .int .i64 q36, .int .i64 q37, .int .i64 q38, .int .i64 q39, .int .i64 q40, .slice q41a q41n q41c] 57 ∧ ∃ (c i : Int) (Mj Dj : Nat → Prop) , m = (i - (apd2 d mg).co).toNat ∧ i ≤ lastI d.L ∧ ((c = (apd2 d mg).co ∧ comF (apd2 d mg) (lastI d.L - d.co).toNat = comF (apd2 d mg) (i - (apd2 d mg).co).toNat) ∨ (c = comF (apd2 d mg) (lastI d.L - d.co).toNat ∧ i = c - 1)) ∧ (∀ j, Mj j → M j ∨ w3.heap.size ≤ j) ∧ (∀ j, Dj j → D j ∨ M j ∨ w.heap.size ≤ j) ∧ Nd v65 k Mj Dj ({ (apd2 d mg) with co := c }) ∧ e 0 = .pointer (some ⟨k, 0, none⟩) ∧ e 4 = .int .i64 0 ∧ e 5 = .int .i64 i) ?_ ?_
    ·
     have hr66 : apd2 d mg = { (apd2 d mg) with co := (apd2 d mg).co } := rfl
     rw [hr66] at F59
     clear hr66
     
     exact ⟨_, HG, (by omega), F_me, F_md, Fk2, ((apd2 d mg).co), (lastI d.L), (M), (D), rfl, (Int.le_refl _), (.inl ⟨rfl, rfl⟩), ((by intro j h; (try dsimp only [V.In] at h ⊢); grind)), ((by intro j h; (try dsimp only [V.In] at h ⊢); grind)), F59, rfl, rfl, rfl⟩
    clear HG F_me F_md Fk2 F59
    rintro _ e v65 ⟨HG, z67, F_me, F_md, Fk2, c, i, Mj, Dj, rfl, hil, hdis, hMj, hDj, F59, he0_0, he0_4, he0_5⟩
    refine V.knownC (t := 0) he0_0 ?_
    refine V.knownC (t := 4) he0_4 ?_
    refine V.knownC (t := 5) he0_5 ?_
    refine V.seq ?_
    refine V.seq ?_
    obtain ⟨kl_68, g_68, B_68, SO_68, SC_68, ad_68, cd_68, ao_68, co_68, ac_68, cc_68, ch_68, hP_68, hc_68, Fk_68, FL_68, FQ_68⟩ := F59.ex
    obtain ⟨hid_68, hrg_68, hte_68, hco_68, hx0_68, hx1_68, hx2_68, hm0_68, hm1_68, hm2_68, hda_68⟩ := F59.ok
    try dsimp only [turnV] at hid_68 hrg_68 hte_68 hco_68 hx0_68 hx1_68 hx2_68 hm0_68 hm1_68 hm2_68 hda_68
    have nk_68 := hP_68.nk
    have nl_68 := hP_68.nl
    have ng_68 := hP_68.ng
    have kL_68 := hP_68.kL
    have lq_68 := hP_68.lq
    have bd_68 := hP_68.d
    obtain ⟨mk_68, ml_68, mg_68⟩ := hP_68.m
    have hA_68 := hP_68.a
    have lm_68 := hP_68.lm
    have ld_68 := hP_68.ld
    have hLo_68 := FL_68.ok
    have hLd_68 := FL_68.dl
    have hLg_68 := FL_68.gl
    have hLk_68 := FL_68.lt
    have hLb_68 := FL_68.bl
    have hkl_68 := Fk_68.lt
    have ha_68k1 : k1 ≠ kl_68 ∧ k1 ≠ g_68 := by constructor <;> (intro e_; grind)
    refine V.region ?_
    refine V.ru 4 ?_
    refine V.loadO T_ok Fk_68 rfl rfl rfl rfl rfl ?_
    refine V.ru 1 ?_
    refine V.nt ?_
    refine V.condT rfl (fun h9 => ?_) (fun h9 => ?_)
    ·
     try replace h9 := V.dec h9
     try simp only [V.mk] at h9
     refine V.skip ?_
     refine V.tN ?_
     refine V.seq ?_
     refine V.block ?_
     refine V.seq ?_
     have hc7 : c < i := h9
     obtain ⟨hcc, hc8⟩ : c = (apd2 d mg).co ∧ comF (apd2 d mg) (lastI d.L - d.co).toNat = comF (apd2 d mg) (i - (apd2 d mg).co).toNat := by rcases hdis with hq | hq; exact hq; exact absurd hq.2 (by omega)
     have hr69 : { (apd2 d mg) with co := c } = apd2 d mg := (by rw [hcc])
     rw [hr69] at F59
     clear hr69
     refine V.region ?_
     refine V.ru 2 ?_
     refine V.call (had_spec (i := i) F59) rfl rfl rfl ?_
     rintro _ w70 ⟨rfl, G71⟩
     have z72 := V.Fr.size G71
     refine V.nt ?_
     refine V.condT rfl (fun h11 => ?_) (fun h11 => ?_)
     ·
      try replace h11 := V.dec h11
      try simp only [V.mk] at h11
      
      replace F59 := F59.gr G71
      obtain ⟨kl_73, g_73, B_73, SO_73, SC_73, ad_73, cd_73, ao_73, co_73, ac_73, cc_73, ch_73, hP_73, hc_73, Fk_73, FL_73, FQ_73⟩ := F59.ex
      obtain ⟨hid_73, hrg_73, hte_73, hco_73, hx0_73, hx1_73, hx2_73, hm0_73, hm1_73, hm2_73, hda_73⟩ := F59.ok
      have nk_73 := hP_73.nk
      have nl_73 := hP_73.nl
      have ng_73 := hP_73.ng
      have kL_73 := hP_73.kL
      have lq_73 := hP_73.lq
      have bd_73 := hP_73.d
      obtain ⟨mk_73, ml_73, mg_73⟩ := hP_73.m
      have hA_73 := hP_73.a
      have lm_73 := hP_73.lm
      have ld_73 := hP_73.ld
      have hLo_73 := FL_73.ok
      have hLd_73 := FL_73.dl
      have hLg_73 := FL_73.gl
      have hLk_73 := FL_73.lt
      have hLb_73 := FL_73.bl
      have hkl_73 := Fk_73.lt
      have ha_73k1 : k1 ≠ kl_73 ∧ k1 ≠ g_73 := by constructor <;> (intro e_; grind)
      clear F59
      refine V.region ?_
      refine V.ru 4 ?_
      refine V.storeO Fk_73 rfl rfl rfl rfl sz3 rfl rfl rfl rfl ?_
      rintro w74 G75 z77 Fs76
      clear Fk_73
      have z78 := V.Fr.size G75
      have Fk_73 := Fs76; clear Fs76
      simp only [V.spliceL, V.cellsL] at Fk_73
      refine V.nil ?_
      refine V.bN ?_
      refine V.tN ?_
      replace FL_73 := FL_73.mv1 G75 (by (try dsimp only [V.In]); first | omega | grind)
      replace FQ_73 := FQ_73.mv1 G75 (by (try dsimp only [V.In]); first | omega | grind)
      have F79 : Nd w74 k Mj Dj ({ (apd2 d mg) with co := i }) := ⟨⟨hid_73, hrg_73, hte_73, ⟨by dsimp only; omega, by dsimp only; omega⟩, hx0_73, hx1_73, hx2_73, hm0_73, hm1_73, hm2_73, hda_73⟩, _, _, _, _, _, _, _, _, _, _, _, _, (hP_73.up (by omega)), hc_73, Fk_73, FL_73, FQ_73⟩
      clear Fk_73 FL_73 FQ_73
      refine V.region ?_
      refine V.ru 1 ?_
      refine V.subN rfl rfl rfl rfl rfl V.lenA V.lenA ?_
      refine V.ru 1 ?_
      refine V.nt ?_
      replace F_me := F_me.gr G71
      replace F_me := F_me.mv1 G75 (by (try dsimp only [V.In]); first | omega | grind)
      replace F_md := F_md.gr G71
      replace F_md := F_md.mv1 G75 (by (try dsimp only [V.In]); first | omega | grind)
      replace Fk2 := Fk2.gr G71
      replace Fk2 := Fk2.ma G75
      replace HG := HG.grow G71
      replace HG := HG.n1 G75 (by first | (refine Or.inr ?_; omega) | (refine Or.inl ?_; first | assumption | (dsimp only; grind)) | grind)
      exact ⟨_, (by omega), HG, (by omega), F_me, F_md, Fk2, (i), (i - 1), (Mj), (Dj), rfl, (by omega), (.inr ⟨(comF_yes (by omega) h11).symm.trans (by rw [← hc8]), rfl⟩), ((by intro j h; (try dsimp only [V.In] at h ⊢); grind)), ((by intro j h; (try dsimp only [V.In] at h ⊢); grind)), F79, rfl, rfl, rfl⟩
     ·
      try replace h11 := V.dec h11
      try simp only [V.mk] at h11
      
      refine V.skip ?_
      refine V.bN ?_
      refine V.tN ?_
      refine V.region ?_
      refine V.ru 1 ?_
      refine V.subN rfl rfl rfl rfl rfl V.lenA V.lenA ?_
      refine V.ru 1 ?_
      refine V.nt ?_
      have hr80 : apd2 d mg = { (apd2 d mg) with co := (apd2 d mg).co } := rfl
      replace F59 := F59.gr G71
      rw [hr80] at F59
      clear hr80
      replace F_me := F_me.gr G71
      replace F_md := F_md.gr G71
      replace Fk2 := Fk2.gr G71
      replace HG := HG.grow G71
      exact ⟨_, (by omega), HG, (by omega), F_me, F_md, Fk2, ((apd2 d mg).co), (i - 1), (Mj), (Dj), rfl, (by omega), (.inl ⟨rfl, hc8.trans (comF_no (by omega) (by have h11b := h11; first | exact h11b | (rw [h11b]; decide)))⟩), ((by intro j h; (try dsimp only [V.In] at h ⊢); grind)), ((by intro j h; (try dsimp only [V.In] at h ⊢); grind)), F59, rfl, rfl, rfl⟩
    ·
     try replace h9 := V.dec h9
     try simp only [V.mk] at h9
     refine V.exit ?_
     refine V.tX ?_
     refine V.tX ?_
     refine V.bE ?_
     refine V.tN ?_
     refine V.seq ?_
     have hc7 : ¬ c < i := by (have h9b := h9; first | exact h9b | exact Int.not_lt.2 h9b)
     have hcf : c = comF (apd2 d mg) (lastI d.L - d.co).toNat := comF_end hc7 hdis
     have hr81 : { (apd2 d mg) with co := c } = apd3 d mg := (by rw [hcf]; rfl)
     rw [hr81] at F59
     clear hr81
     obtain ⟨kl_82, g_82, B_82, SO_82, SC_82, ad_82, cd_82, ao_82, co_82, ac_82, cc_82, ch_82, hP_82, hc_82, Fk_82, FL_82, FQ_82⟩ := F59.ex
     obtain ⟨hid_82, hrg_82, hte_82, hco_82, hx0_82, hx1_82, hx2_82, hm0_82, hm1_82, hm2_82, hda_82⟩ := F59.ok
     have nk_82 := hP_82.nk
     have nl_82 := hP_82.nl
     have ng_82 := hP_82.ng
     have kL_82 := hP_82.kL
     have lq_82 := hP_82.lq
     have bd_82 := hP_82.d
     obtain ⟨mk_82, ml_82, mg_82⟩ := hP_82.m
     have hA_82 := hP_82.a
     have lm_82 := hP_82.lm
     have ld_82 := hP_82.ld
     have hLo_82 := FL_82.ok
     have hLd_82 := FL_82.dl
     have hLg_82 := FL_82.gl
     have hLk_82 := FL_82.lt
     have hLb_82 := FL_82.bl
     have hkl_82 := Fk_82.lt
     have ha_82k1 : k1 ≠ kl_82 ∧ k1 ≠ g_82 := by constructor <;> (intro e_; grind)
     refine V.drawQ mixed (by kernel_rfl) ?_
     refine V.qrun T_ok 4 rfl ?_
     refine V.qelemP T_ok rfl rfl rfl rfl rfl rfl (by first | omega | decide) (by first | omega | decide) ?_
     refine V.qloadO T_ok Fk_82 rfl rfl rfl rfl rfl ?_
     refine V.qrun T_ok 1 rfl ?_
     refine V.qcall V.clo (fun w1 g => (rlast_spec (F59.gr g))) rfl rfl rfl ?_
     refine V.qrun T_ok 1 rfl ?_
     refine V.qnil ?_
     rintro w83 G84
     have z85 := V.Fr.size G84
     refine V.tN ?_
     refine V.condT rfl (fun h13 => ?_) (fun h13 => ?_)
     ·
      try replace h13 := V.dec h13
      try simp only [V.mk] at h13
      
      refine V.region ?_
      refine V.ru 2 ?_
      replace F59 := F59.gr G84
      refine V.call (send_spec (to := 0) F59 ⟨by omega, by omega⟩ (by first | assumption | omega)) rfl rfl rfl ?_
      rintro _ w91 ⟨M86, D87, rfl, F88, h89, h90, G92⟩
      have z93 := V.FrE.size G92
      refine V.nil ?_
      rw [show apdV d mg = sendV (apd3 d mg) (0 : Int) from by (unfold apdV; rw [if_pos hyes, if_pos hok, hcs, if_pos (show getX (apd3 d mg) 0 ≤ lastI d.L from h13)])]
      refine V.doneN rfl ?_
      replace HG := HG.grow G84
      replace HG := HG.stepE G92 (by intro i h; (try dsimp only [V.In] at h ⊢); first | omega | grind)
      exact ⟨_, _, (by first | rfl | simp only [List.length_set]), F88, (by intro j h; (try dsimp only [V.In] at *); grind), (by intro j h; (try dsimp only [V.In] at *); grind), HG⟩
     ·
      try replace h13 := V.dec h13
      try simp only [V.mk] at h13
      
      refine V.skip ?_
      rw [show apdV d mg = apd3 d mg from by (unfold apdV; rw [if_pos hyes, if_pos hok, hcs, if_neg (show ¬ getX (apd3 d mg) 0 ≤ lastI d.L from by (have h13b := h13; first | exact h13b | exact Int.not_le.2 h13b))])]
      refine V.doneN rfl ?_
      replace F59 := F59.gr G84
      replace HG := HG.grow G84
      exact ⟨_, _, (by first | rfl | simp only [List.length_set]), F59, (by intro j h; (try dsimp only [V.In] at *); grind), (by intro j h; (try dsimp only [V.In] at *); grind), HG⟩
 ·
  replace FX := FX.gr G4
  obtain ⟨kl_94, g_94, B_94, SO_94, SC_94, ad_94, cd_94, ao_94, co_94, ac_94, cc_94, ch_94, hP_94, hc_94, Fk_94, FL_94, FQ_94⟩ := FX.ex
  obtain ⟨hid_94, hrg_94, hte_94, hco_94, hx0_94, hx1_94, hx2_94, hm0_94, hm1_94, hm2_94, hda_94⟩ := FX.ok
  have nk_94 := hP_94.nk
  have nl_94 := hP_94.nl
  have ng_94 := hP_94.ng
  have kL_94 := hP_94.kL
  have lq_94 := hP_94.lq
  have bd_94 := hP_94.d
  obtain ⟨mk_94, ml_94, mg_94⟩ := hP_94.m
  have hA_94 := hP_94.a
  have lm_94 := hP_94.lm
  have ld_94 := hP_94.ld
  have hLo_94 := FL_94.ok
  have hLd_94 := FL_94.dl
  have hLg_94 := FL_94.gl
  have hLk_94 := FL_94.lt
  have hLb_94 := FL_94.bl
  have hkl_94 := Fk_94.lt
  refine V.region ?_
  refine V.ru 1 ?_
  have Fc95 := Fk2
  rw [hcs] at Fc95
  refine V.loadO T_ok Fc95 rfl rfl rfl rfl rfl ?_
  refine V.ru 1 ?_
  refine V.nt ?_
  refine V.seq ?_
  refine V.block ?_
  replace F_me := F_me.gr G4
  replace F_md := F_md.gr G4
  replace HG := HG.grow G4
  refine V.seqJ (fun e v97 => V.FrE M w v97 ∧ w3.heap.size ≤ v97.heap.size ∧ Nd v97 k M D d ∧ Sl V.Cod.ent v97 D_me a_me c_me mg.es ∧ Sl V.Cod.byte v97 D_md a_md c_md mg.da ∧ Cells v97 k1 [.int .i64 mg.kd, .int .i64 mg.fr, .int .i64 mg.to, .int .i64 mg.rg, .int .i64 mg.te, .int .i64 mg.ix, .int .i64 mg.lt, .int .i64 mg.co, .bool mg.ok, .slice a_me mg.es.length c_me, .slice a_md mg.da.length c_md, .int .i64 q0, .int .i64 q1, .int .i64 q2, .int .i64 q3, .int .i64 q4, .int .i64 q5, .int .i64 q6, .int .i64 q7, .string q8, .int .i64 q9, .int .i64 q10, .int .i64 q11, .string q12, .string q13, .string q14, .bool q15, .int .i64 q16, .int .i64 q17, .int .i64 q18, .int .i64 q19, .bool q20, .bool q21, .slice q22a q22n q22c, .int .i64 q23, .int .i64 q24, .int .i64 q25, .int .i64 q26, .slice q27a q27n q27c, .bool q28, .int .i64 q29, .int .i64 q30, .string q31, .int .i64 q32, .int .i64 q33, .int .i64 q34, .int .i64 q35, .int .i64 q36, .int .i64 q37, .int .i64 q38, .int .i64 q39, .int .i64 q40, .slice q41a q41n q41c] 57 ∧ Cells v97 k [.int .i64 d.id, .int .i64 d.rg, .int .i64 d.te, .int .i64 d.vo, .int .i64 d.ro, .int .i64 d.le, .pointer (some ⟨kl_94, 0, none⟩), .int .i64 d.co, .slice ad_94 d.da.length cd_94, .bool d.v0, .bool d.v1, .bool d.v2, .int .i64 d.x0, .int .i64 d.x1, .int .i64 d.x2, .int .i64 d.m0, .int .i64 d.m1, .int .i64 d.m2, .slice ao_94 d.out.length co_94, .slice ac_94 ch_94.length cc_94] 101 ∧ Lg v97 kl_94 g_94 B_94 d.L ∧ Nq v97 SO_94 SC_94 D ad_94 cd_94 ao_94 co_94 ac_94 cc_94 ch_94 d.da d.out ∧ e 0 = .pointer (some ⟨k, 0, none⟩) ∧ e 3 = .pointer (some ⟨k1, 0, none⟩) ∧ e 4 = .int .i64 1 ∧ e 8 = .bool (decide (¬ mg.te = d.te) || decide (¬ d.ro = 2)) ∧ True) ?_ ?_
  ·
   refine V.drawQ mixed (by kernel_rfl) ?_
   refine V.qrun T_ok 1 rfl ?_
   refine V.qloadO T_ok Fk2 rfl rfl rfl rfl rfl ?_
   refine V.qrun T_ok 3 rfl ?_
   refine V.qloadO T_ok Fk_94 rfl rfl rfl rfl rfl ?_
   refine V.qrun T_ok 2 rfl ?_
   refine V.qsplit (j := 7) (t := 16) rfl rfl (fun g2_7 => ?_) (fun g2_7 => ?_)
   ·
    try replace g2_7 := V.dec g2_7
    try simp only [V.mk] at g2_7
    refine V.qrun T_ok 7 rfl ?_
    refine V.qnil ?_
    rintro w98 G99
    have z100 := V.Fr.size G99
    refine V.tN ?_
    replace FX := FX.gr G99
    replace F_me := F_me.gr G99
    replace F_md := F_md.gr G99
    replace Fk2 := Fk2.gr G99
    replace Fk_94 := Fk_94.gr G99
    replace FL_94 := FL_94.gr G99
    replace FQ_94 := FQ_94.gr G99
    replace HG := HG.grow G99
    exact ⟨HG, (by omega), FX, F_me, F_md, Fk2, Fk_94, FL_94, FQ_94, rfl, rfl, rfl, (congrArg Value.bool (by first | rfl | (simp_all; done) | grind)), trivial⟩
   ·
    try replace g2_7 := V.dec g2_7
    try simp only [V.mk] at g2_7
    refine V.qrun T_ok 3 rfl ?_
    refine V.qyes rfl rfl rfl ?_
    refine V.qloadO T_ok Fk_94 rfl rfl rfl rfl rfl ?_
    refine V.qrun T_ok 3 rfl ?_
    refine V.qnil ?_
    rintro w101 G102
    have z103 := V.Fr.size G102
    refine V.tN ?_
    replace FX := FX.gr G102
    replace F_me := F_me.gr G102
    replace F_md := F_md.gr G102
    replace Fk2 := Fk2.gr G102
    replace Fk_94 := Fk_94.gr G102
    replace FL_94 := FL_94.gr G102
    replace FQ_94 := FQ_94.gr G102
    replace HG := HG.grow G102
    exact ⟨HG, (by omega), FX, F_me, F_md, Fk2, Fk_94, FL_94, FQ_94, rfl, rfl, rfl, (congrArg Value.bool (by first | rfl | (simp_all; done) | grind)), trivial⟩
  clear HG FX F_me F_md Fk2 Fk_94 FL_94 FQ_94
  rintro e v97 ⟨HG, z104, FX, F_me, F_md, Fk2, Fk_94, FL_94, FQ_94, hjn96_0, hjn96_3, hjn96_4, hjn96_8, -⟩
  refine V.knownC (t := 0) hjn96_0 ?_
  refine V.knownC (t := 3) hjn96_3 ?_
  refine V.knownC (t := 4) hjn96_4 ?_
  refine V.knownC (t := 8) hjn96_8 ?_
  refine V.condT rfl (fun h2 => ?_) (fun h2 => ?_)
  ·
   try replace h2 := V.dec h2
   try simp only [V.mk] at h2
   have hno : ¬ (mg.te = d.te ∧ d.ro = 2) := by (try simp at h2); grind
   refine V.ret ?_
   refine V.bR ?_
   refine V.tR ?_
   rw [show apdV d mg = d from if_neg hno]
   refine V.done rfl ?_
   exact ⟨_, _, (by first | rfl | simp only [List.length_set]), FX, (by intro j h; (try dsimp only [V.In] at *); grind), (by intro j h; (try dsimp only [V.In] at *); grind), HG⟩
  ·
   try replace h2 := V.dec h2
   try simp only [V.mk] at h2
   have hyes : mg.te = d.te ∧ d.ro = 2 := by (try simp at h2); grind
   refine V.sr ?_
   refine V.ru 1 ?_
   refine V.loadO T_ok Fk2 rfl rfl rfl rfl rfl ?_
   refine V.ru 2 ?_
   refine V.nt ?_
   refine V.condT rfl (fun h3 => ?_) (fun h3 => ?_)
   ·
    try replace h3 := V.dec h3
    try simp only [V.mk] at h3
    have hok : ¬ mg.ok = true := by (have h3b := h3; simpa using h3b)
    refine V.seq ?_
    obtain ⟨kl_105, g_105, B_105, SO_105, SC_105, ad_105, cd_105, ao_105, co_105, ac_105, cc_105, ch_105, hP_105, hc_105, Fk_105, FL_105, FQ_105⟩ := FX.ex
    obtain ⟨hid_105, hrg_105, hte_105, hco_105, hx0_105, hx1_105, hx2_105, hm0_105, hm1_105, hm2_105, hda_105⟩ := FX.ok
    have nk_105 := hP_105.nk
    have nl_105 := hP_105.nl
    have ng_105 := hP_105.ng
    have kL_105 := hP_105.kL
    have lq_105 := hP_105.lq
    have bd_105 := hP_105.d
    obtain ⟨mk_105, ml_105, mg_105⟩ := hP_105.m
    have hA_105 := hP_105.a
    have lm_105 := hP_105.lm
    have ld_105 := hP_105.ld
    have hLo_105 := FL_105.ok
    have hLd_105 := FL_105.dl
    have hLg_105 := FL_105.gl
    have hLk_105 := FL_105.lt
    have hLb_105 := FL_105.bl
    have hkl_105 := Fk_105.lt
    clear FX
    refine V.drawT 17 mixed (by kernel_rfl) ?_
    rintro w106 G107 s108
    have z109 := V.Fr.size G107
    refine V.qrun T_ok 6 rfl ?_
    refine V.qelemP T_ok rfl rfl rfl rfl rfl rfl (by first | omega | decide) (by first | omega | decide) ?_
    replace Fk_105 := Fk_105.gr G107
    refine V.qloadO T_ok Fk_105 rfl rfl rfl rfl rfl ?_
    refine V.qsubN rfl rfl rfl rfl rfl V.lenA V.lenA ?_
    refine V.qrun T_ok 1 rfl ?_
    replace Fk2 := Fk2.gr G107
    refine V.qloadO T_ok Fk2 rfl rfl rfl rfl rfl ?_
    refine V.qaddN rfl rfl rfl rfl rfl V.lenA V.lenA ?_
    refine V.qrun T_ok 4 rfl ?_
    refine V.qelemP T_ok rfl rfl rfl rfl rfl rfl (by first | omega | decide) (by first | omega | decide) ?_
    refine V.qnil ?_
    refine V.storeO Fk_105 rfl rfl rfl rfl sz3 rfl rfl rfl rfl ?_
    rintro w110 G111 z113 Fs112
    clear Fk_105
    have z114 := V.Fr.size G111
    have Fk_105 := Fs112; clear Fs112
    simp only [V.spliceL, V.cellsL] at Fk_105
    refine V.nt ?_
    refine V.seq ?_
    replace FL_105 := FL_105.gr G107
    replace FL_105 := FL_105.mv1 G111 (by (try dsimp only [V.In]); first | omega | grind)
    replace FQ_105 := FQ_105.gr G107
    replace FQ_105 := FQ_105.mv1 G111 (by (try dsimp only [V.In]); first | omega | grind)
    have F115 : Nd w110 k M D ({ d with x1 := max (min (d.x1 - 1) (mg.ix + 1)) 1 }) := ⟨⟨hid_105, hrg_105, hte_105, hco_105, hx0_105, ⟨by dsimp only; omega, by dsimp only; omega⟩, hx2_105, hm0_105, hm1_105, hm2_105, hda_105⟩, _, _, _, _, _, _, _, _, _, _, _, _, (hP_105.up (by omega)), hc_105, Fk_105, FL_105, FQ_105⟩
    clear Fk_105 FL_105 FQ_105
    have hr116 : { d with x1 := max (min (d.x1 - 1) (mg.ix + 1)) 1 } = setX d mg.fr (max (min (getX d mg.fr - 1) (mg.ix + 1)) 1) := (by unfold setX getX; rw [hcs]; rfl)
    rw [hr116] at F115
    clear hr116
    have hs1 : (setX d mg.fr (max (min (getX d mg.fr - 1) (mg.ix + 1)) 1)).out.length + 1 ≤ 1000000 := hs
    refine V.region ?_
    refine V.ru 2 ?_
    refine V.call (send_spec (to := 1) F115 ⟨by omega, by omega⟩ (by first | assumption | omega)) rfl rfl rfl ?_
    rintro _ w122 ⟨M117, D118, rfl, F119, h120, h121, G123⟩
    have z124 := V.FrE.size G123
    refine V.nt ?_
    refine V.ret ?_
    refine V.bR ?_
    refine V.tR ?_
    rw [show apdV d mg = sendV (setX d mg.fr (max (min (getX d mg.fr - 1) (mg.ix + 1)) 1)) (1 : Int) from by (unfold apdV; rw [if_pos hyes, if_neg hok]; simp only [hcs])]
    refine V.done rfl ?_
    replace HG := HG.grow G107
    replace HG := HG.n1 G111 (by first | (refine Or.inr ?_; omega) | (refine Or.inl ?_; first | assumption | (dsimp only; grind)) | grind)
    replace HG := HG.stepE G123 (by intro i h; (try dsimp only [V.In] at h ⊢); first | omega | grind)
    exact ⟨_, _, (by first | rfl | simp only [List.length_set]), F119, (by intro j h; (try dsimp only [V.In] at *); grind), (by intro j h; (try dsimp only [V.In] at *); grind), HG⟩
   ·
    try replace h3 := V.dec h3
    try simp only [V.mk] at h3
    have hok : mg.ok = true := by (have h3b := h3; simpa using h3b)
    refine V.skip ?_
    refine V.bN ?_
    refine V.tN ?_
    refine V.seq ?_
    obtain ⟨kl_125, g_125, B_125, SO_125, SC_125, ad_125, cd_125, ao_125, co_125, ac_125, cc_125, ch_125, hP_125, hc_125, Fk_125, FL_125, FQ_125⟩ := FX.ex
    obtain ⟨hid_125, hrg_125, hte_125, hco_125, hx0_125, hx1_125, hx2_125, hm0_125, hm1_125, hm2_125, hda_125⟩ := FX.ok
    have nk_125 := hP_125.nk
    have nl_125 := hP_125.nl
    have ng_125 := hP_125.ng
    have kL_125 := hP_125.kL
    have lq_125 := hP_125.lq
    have bd_125 := hP_125.d
    obtain ⟨mk_125, ml_125, mg_125⟩ := hP_125.m
    have hA_125 := hP_125.a
    have lm_125 := hP_125.lm
    have ld_125 := hP_125.ld
    have hLo_125 := FL_125.ok
    have hLd_125 := FL_125.dl
    have hLg_125 := FL_125.gl
    have hLk_125 := FL_125.lt
    have hLb_125 := FL_125.bl
    have hkl_125 := Fk_125.lt
    clear FX
    have hli : lastI d.L = d.L.base + d.L.l.length := rfl
    refine V.drawGT 16 (V.sel [(11, (fun v wz => v = .int .i64 (lastI d.L)))]) mixed (by kernel_rfl) (V.mono_cons V.eqV_mono V.mono_nil) ?_
    refine V.grun T_ok 6 rfl (V.sel_none rfl) ?_
    refine V.gstep rfl rfl rfl (fun w_ _ => V.elemP_run T_ok rfl rfl rfl rfl (by first | omega | decide) (by first | omega | decide) w_) ?_
    refine V.gloadO T_ok (fun w' h => Fk_125.gr h.1) rfl rfl rfl rfl rfl rfl ?_
    refine V.grun T_ok 1 rfl (V.sel_none rfl) ?_
    refine V.gloadO T_ok (fun w' h => Fk2.gr h.1) rfl rfl rfl rfl rfl rfl ?_
    refine V.grun T_ok 1 rfl (V.sel_none rfl) ?_
    refine V.gcall (fun w' h => (rlast2_spec (Fk_125.gr h.1) (FL_125.gr h.1)).mono (by rintro v w'' ⟨rfl, G⟩; exact ⟨rfl, G⟩)) rfl rfl rfl rfl ?_
    rintro _ w126 - - rfl
    refine V.grun T_ok 4 rfl (V.sel_none rfl) ?_
    refine V.gnil ?_
    rintro w127 G128 hH129
    have z130 := V.Fr.size G128
    clear hH129
    refine V.elemP T_ok rfl rfl rfl rfl rfl rfl (by first | omega | decide) (by first | omega | decide) ?_
    replace Fk_125 := Fk_125.gr G128
    refine V.storeO Fk_125 rfl rfl rfl rfl sz3 rfl rfl rfl rfl ?_
    rintro w131 G132 z134 Fs133
    clear Fk_125
    have z135 := V.Fr.size G132
    have Fk_125 := Fs133; clear Fs133
    simp only [V.spliceL, V.cellsL] at Fk_125
    refine V.nt ?_
    refine V.seq ?_
    refine V.drawT 12 mixed (by kernel_rfl) ?_
    rintro w136 G137 s138
    have z139 := V.Fr.size G137
    refine V.qrun T_ok 6 rfl ?_
    refine V.qelemP T_ok rfl rfl rfl rfl rfl rfl (by first | omega | decide) (by first | omega | decide) ?_
    replace Fk_125 := Fk_125.gr G137
    refine V.qloadO T_ok Fk_125 rfl rfl rfl rfl rfl ?_
    refine V.qaddN rfl rfl rfl rfl rfl V.lenA V.lenA ?_
    refine V.qrun T_ok 2 rfl ?_
    refine V.qelemP T_ok rfl rfl rfl rfl rfl rfl (by first | omega | decide) (by first | omega | decide) ?_
    refine V.qnil ?_
    refine V.storeO Fk_125 rfl rfl rfl rfl sz3 rfl rfl rfl rfl ?_
    rintro w140 G141 z143 Fs142
    clear Fk_125
    have z144 := V.Fr.size G141
    have Fk_125 := Fs142; clear Fs142
    simp only [V.spliceL, V.cellsL] at Fk_125
    refine V.nt ?_
    refine V.seq ?_
    refine V.seq ?_
    replace FL_125 := FL_125.gr G128
    replace FL_125 := FL_125.mv1 G132 (by (try dsimp only [V.In]); first | omega | grind)
    replace FL_125 := FL_125.gr G137
    replace FL_125 := FL_125.mv1 G141 (by (try dsimp only [V.In]); first | omega | grind)
    replace FQ_125 := FQ_125.gr G128
    replace FQ_125 := FQ_125.mv1 G132 (by (try dsimp only [V.In]); first | omega | grind)
    replace FQ_125 := FQ_125.gr G137
    replace FQ_125 := FQ_125.mv1 G141 (by (try dsimp only [V.In]); first | omega | grind)
    have F145 : Nd w140 k M D ({ d with m1 := max d.m1 (min mg.ix (lastI d.L)), x1 := max d.m1 (min mg.ix (lastI d.L)) + 1 }) := ⟨⟨hid_125, hrg_125, hte_125, hco_125, hx0_125, ⟨by dsimp only; omega, by dsimp only; omega⟩, hx2_125, hm0_125, ⟨by dsimp only; omega, by dsimp only; omega⟩, hm2_125, hda_125⟩, _, _, _, _, _, _, _, _, _, _, _, _, (hP_125.up (by omega)), hc_125, Fk_125, FL_125, FQ_125⟩
    clear Fk_125 FL_125 FQ_125
    have hr146 : { d with m1 := max d.m1 (min mg.ix (lastI d.L)), x1 := max d.m1 (min mg.ix (lastI d.L)) + 1 } = apd2 d mg := (by unfold apd2 setX setM getM; rw [hcs]; rfl)
    rw [hr146] at F145
    clear hr146
    have hE1 : lastI (apd2 d mg).L = lastI d.L := rfl
    have hE2 : (apd2 d mg).co = d.co := rfl
    refine V.region ?_
    refine V.ru 1 ?_
    refine V.call (rlast_spec F145) rfl rfl rfl ?_
    rintro _ w147 ⟨rfl, G148⟩
    have z149 := V.Fr.size G148
    refine V.ru 1 ?_
    refine V.nt ?_
    refine V.block ?_
    replace F_me := F_me.gr G128
    replace F_me := F_me.mv1 G132 (by (try dsimp only [V.In]); first | omega | grind)
    replace F_me := F_me.gr G137
    replace F_me := F_me.mv1 G141 (by (try dsimp only [V.In]); first | omega | grind)
    replace F_me := F_me.gr G148
    replace F_md := F_md.gr G128
    replace F_md := F_md.mv1 G132 (by (try dsimp only [V.In]); first | omega | grind)
    replace F_md := F_md.gr G137
    replace F_md := F_md.mv1 G141 (by (try dsimp only [V.In]); first | omega | grind)
    replace F_md := F_md.gr G148
    replace Fk2 := Fk2.gr G128
    replace Fk2 := Fk2.ma G132
    replace Fk2 := Fk2.gr G137
    replace Fk2 := Fk2.ma G141
    replace Fk2 := Fk2.gr G148
    replace F145 := F145.gr G148
    replace HG := HG.grow G128
    replace HG := HG.n1 G132 (by first | (refine Or.inr ?_; omega) | (refine Or.inl ?_; first | assumption | (dsimp only; grind)) | grind)
    replace HG := HG.grow G137
    replace HG := HG.n1 G141 (by first | (refine Or.inr ?_; omega) | (refine Or.inl ?_; first | assumption | (dsimp only; grind)) | grind)
    replace HG := HG.grow G148
    refine V.loopM (fun m e v151 => V.FrE M w v151 ∧ w147.heap.size ≤ v151.heap.size ∧ Sl V.Cod.ent v151 D_me a_me c_me mg.es ∧ Sl V.Cod.byte v151 D_md a_md c_md mg.da ∧ Cells v151 k1 [.int .i64 mg.kd, .int .i64 mg.fr, .int .i64 mg.to, .int .i64 mg.rg, .int .i64 mg.te, .int .i64 mg.ix, .int .i64 mg.lt, .int .i64 mg.co, .bool mg.ok, .slice a_me mg.es.length c_me, .slice a_md mg.da.length c_md, .int .i64 q0, .int .i64 q1, .int .i64 q2, .int .i64 q3, .int .i64 q4, .int .i64 q5, .int .i64 q6, .int .i64 q7, .string q8, .int .i64 q9, .int .i64 q10, .int .i64 q11, .string q12, .string q13, .string q14, .bool q15, .int .i64 q16, .int .i64 q17, .int .i64 q18, .int .i64 q19, .bool q20, .bool q21, .slice q22a q22n q22c, .int .i64 q23, .int .i64 q24, .int .i64 q25, .int .i64 q26, .slice q27a q27n q27c, .bool q28, .int .i64 q29, .int .i64 q30, .string q31, .int .i64 q32, .int .i64 q33, .int .i64 q34, .int .i64 q35, .int .i64 q36, .int .i64 q37, .int .i64 q38, .int .i64 q39, .int .i64 q40, .slice q41a q41n q41c] 57 ∧ ∃ (c i : Int) (Mj Dj : Nat → Prop) , m = (i - (apd2 d mg).co).toNat ∧ i ≤ lastI d.L ∧ ((c = (apd2 d mg).co ∧ comF (apd2 d mg) (lastI d.L - d.co).toNat = comF (apd2 d mg) (i - (apd2 d mg).co).toNat) ∨ (c = comF (apd2 d mg) (lastI d.L - d.co).toNat ∧ i = c - 1)) ∧ (∀ j, Mj j → M j ∨ w3.heap.size ≤ j) ∧ (∀ j, Dj j → D j ∨ M j ∨ w.heap.size ≤ j) ∧ Nd v151 k Mj Dj ({ (apd2 d mg) with co := c }) ∧ e 0 = .pointer (some ⟨k, 0, none⟩) ∧ e 4 = .int .i64 1 ∧ e 5 = .int .i64 i) ?_ ?_
    ·
     have hr152 : apd2 d mg = { (apd2 d mg) with co := (apd2 d mg).co } := rfl
     rw [hr152] at F145
     clear hr152
     
     exact ⟨_, HG, (by omega), F_me, F_md, Fk2, ((apd2 d mg).co), (lastI d.L), (M), (D), rfl, (Int.le_refl _), (.inl ⟨rfl, rfl⟩), ((by intro j h; (try dsimp only [V.In] at h ⊢); grind)), ((by intro j h; (try dsimp only [V.In] at h ⊢); grind)), F145, rfl, rfl, rfl⟩
    clear HG F_me F_md Fk2 F145
    rintro _ e v151 ⟨HG, z153, F_me, F_md, Fk2, c, i, Mj, Dj, rfl, hil, hdis, hMj, hDj, F145, he0_0, he0_4, he0_5⟩
    refine V.knownC (t := 0) he0_0 ?_
    refine V.knownC (t := 4) he0_4 ?_
    refine V.knownC (t := 5) he0_5 ?_
    refine V.seq ?_
    refine V.seq ?_
    obtain ⟨kl_154, g_154, B_154, SO_154, SC_154, ad_154, cd_154, ao_154, co_154, ac_154, cc_154, ch_154, hP_154, hc_154, Fk_154, FL_154, FQ_154⟩ := F145.ex
    obtain ⟨hid_154, hrg_154, hte_154, hco_154, hx0_154, hx1_154, hx2_154, hm0_154, hm1_154, hm2_154, hda_154⟩ := F145.ok
    try dsimp only [turnV] at hid_154 hrg_154 hte_154 hco_154 hx0_154 hx1_154 hx2_154 hm0_154 hm1_154 hm2_154 hda_154
    have nk_154 := hP_154.nk
    have nl_154 := hP_154.nl
    have ng_154 := hP_154.ng
    have kL_154 := hP_154.kL
    have lq_154 := hP_154.lq
    have bd_154 := hP_154.d
    obtain ⟨mk_154, ml_154, mg_154⟩ := hP_154.m
    have hA_154 := hP_154.a
    have lm_154 := hP_154.lm
    have ld_154 := hP_154.ld
    have hLo_154 := FL_154.ok
    have hLd_154 := FL_154.dl
    have hLg_154 := FL_154.gl
    have hLk_154 := FL_154.lt
    have hLb_154 := FL_154.bl
    have hkl_154 := Fk_154.lt
    have ha_154k1 : k1 ≠ kl_154 ∧ k1 ≠ g_154 := by constructor <;> (intro e_; grind)
    refine V.region ?_
    refine V.ru 4 ?_
    refine V.loadO T_ok Fk_154 rfl rfl rfl rfl rfl ?_
    refine V.ru 1 ?_
    refine V.nt ?_
    refine V.condT rfl (fun h9 => ?_) (fun h9 => ?_)
    ·
     try replace h9 := V.dec h9
     try simp only [V.mk] at h9
     refine V.skip ?_
     refine V.tN ?_
     refine V.seq ?_
     refine V.block ?_
     refine V.seq ?_
     have hc7 : c < i := h9
     obtain ⟨hcc, hc8⟩ : c = (apd2 d mg).co ∧ comF (apd2 d mg) (lastI d.L - d.co).toNat = comF (apd2 d mg) (i - (apd2 d mg).co).toNat := by rcases hdis with hq | hq; exact hq; exact absurd hq.2 (by omega)
     have hr155 : { (apd2 d mg) with co := c } = apd2 d mg := (by rw [hcc])
     rw [hr155] at F145
     clear hr155
     refine V.region ?_
     refine V.ru 2 ?_
     refine V.call (had_spec (i := i) F145) rfl rfl rfl ?_
     rintro _ w156 ⟨rfl, G157⟩
     have z158 := V.Fr.size G157
     refine V.nt ?_
     refine V.condT rfl (fun h11 => ?_) (fun h11 => ?_)
     ·
      try replace h11 := V.dec h11
      try simp only [V.mk] at h11
      
      replace F145 := F145.gr G157
      obtain ⟨kl_159, g_159, B_159, SO_159, SC_159, ad_159, cd_159, ao_159, co_159, ac_159, cc_159, ch_159, hP_159, hc_159, Fk_159, FL_159, FQ_159⟩ := F145.ex
      obtain ⟨hid_159, hrg_159, hte_159, hco_159, hx0_159, hx1_159, hx2_159, hm0_159, hm1_159, hm2_159, hda_159⟩ := F145.ok
      have nk_159 := hP_159.nk
      have nl_159 := hP_159.nl
      have ng_159 := hP_159.ng
      have kL_159 := hP_159.kL
      have lq_159 := hP_159.lq
      have bd_159 := hP_159.d
      obtain ⟨mk_159, ml_159, mg_159⟩ := hP_159.m
      have hA_159 := hP_159.a
      have lm_159 := hP_159.lm
      have ld_159 := hP_159.ld
      have hLo_159 := FL_159.ok
      have hLd_159 := FL_159.dl
      have hLg_159 := FL_159.gl
      have hLk_159 := FL_159.lt
      have hLb_159 := FL_159.bl
      have hkl_159 := Fk_159.lt
      have ha_159k1 : k1 ≠ kl_159 ∧ k1 ≠ g_159 := by constructor <;> (intro e_; grind)
      clear F145
      refine V.region ?_
      refine V.ru 4 ?_
      refine V.storeO Fk_159 rfl rfl rfl rfl sz3 rfl rfl rfl rfl ?_
      rintro w160 G161 z163 Fs162
      clear Fk_159
      have z164 := V.Fr.size G161
      have Fk_159 := Fs162; clear Fs162
      simp only [V.spliceL, V.cellsL] at Fk_159
      refine V.nil ?_
      refine V.bN ?_
      refine V.tN ?_
      replace FL_159 := FL_159.mv1 G161 (by (try dsimp only [V.In]); first | omega | grind)
      replace FQ_159 := FQ_159.mv1 G161 (by (try dsimp only [V.In]); first | omega | grind)
      have F165 : Nd w160 k Mj Dj ({ (apd2 d mg) with co := i }) := ⟨⟨hid_159, hrg_159, hte_159, ⟨by dsimp only; omega, by dsimp only; omega⟩, hx0_159, hx1_159, hx2_159, hm0_159, hm1_159, hm2_159, hda_159⟩, _, _, _, _, _, _, _, _, _, _, _, _, (hP_159.up (by omega)), hc_159, Fk_159, FL_159, FQ_159⟩
      clear Fk_159 FL_159 FQ_159
      refine V.region ?_
      refine V.ru 1 ?_
      refine V.subN rfl rfl rfl rfl rfl V.lenA V.lenA ?_
      refine V.ru 1 ?_
      refine V.nt ?_
      replace F_me := F_me.gr G157
      replace F_me := F_me.mv1 G161 (by (try dsimp only [V.In]); first | omega | grind)
      replace F_md := F_md.gr G157
      replace F_md := F_md.mv1 G161 (by (try dsimp only [V.In]); first | omega | grind)
      replace Fk2 := Fk2.gr G157
      replace Fk2 := Fk2.ma G161
      replace HG := HG.grow G157
      replace HG := HG.n1 G161 (by first | (refine Or.inr ?_; omega) | (refine Or.inl ?_; first | assumption | (dsimp only; grind)) | grind)
      exact ⟨_, (by omega), HG, (by omega), F_me, F_md, Fk2, (i), (i - 1), (Mj), (Dj), rfl, (by omega), (.inr ⟨(comF_yes (by omega) h11).symm.trans (by rw [← hc8]), rfl⟩), ((by intro j h; (try dsimp only [V.In] at h ⊢); grind)), ((by intro j h; (try dsimp only [V.In] at h ⊢); grind)), F165, rfl, rfl, rfl⟩
     ·
      try replace h11 := V.dec h11
      try simp only [V.mk] at h11
      
      refine V.skip ?_
      refine V.bN ?_
      refine V.tN ?_
      refine V.region ?_
      refine V.ru 1 ?_
      refine V.subN rfl rfl rfl rfl rfl V.lenA V.lenA ?_
      refine V.ru 1 ?_
      refine V.nt ?_
      have hr166 : apd2 d mg = { (apd2 d mg) with co := (apd2 d mg).co } := rfl
      replace F145 := F145.gr G157
      rw [hr166] at F145
      clear hr166
      replace F_me := F_me.gr G157
      replace F_md := F_md.gr G157
      replace Fk2 := Fk2.gr G157
      replace HG := HG.grow G157
      exact ⟨_, (by omega), HG, (by omega), F_me, F_md, Fk2, ((apd2 d mg).co), (i - 1), (Mj), (Dj), rfl, (by omega), (.inl ⟨rfl, hc8.trans (comF_no (by omega) (by have h11b := h11; first | exact h11b | (rw [h11b]; decide)))⟩), ((by intro j h; (try dsimp only [V.In] at h ⊢); grind)), ((by intro j h; (try dsimp only [V.In] at h ⊢); grind)), F145, rfl, rfl, rfl⟩
    ·
     try replace h9 := V.dec h9
     try simp only [V.mk] at h9
     refine V.exit ?_
     refine V.tX ?_
     refine V.tX ?_
     refine V.bE ?_
     refine V.tN ?_
     refine V.seq ?_
     have hc7 : ¬ c < i := by (have h9b := h9; first | exact h9b | exact Int.not_lt.2 h9b)
     have hcf : c = comF (apd2 d mg) (lastI d.L - d.co).toNat := comF_end hc7 hdis
     have hr167 : { (apd2 d mg) with co := c } = apd3 d mg := (by rw [hcf]; rfl)
     rw [hr167] at F145
     clear hr167
     obtain ⟨kl_168, g_168, B_168, SO_168, SC_168, ad_168, cd_168, ao_168, co_168, ac_168, cc_168, ch_168, hP_168, hc_168, Fk_168, FL_168, FQ_168⟩ := F145.ex
     obtain ⟨hid_168, hrg_168, hte_168, hco_168, hx0_168, hx1_168, hx2_168, hm0_168, hm1_168, hm2_168, hda_168⟩ := F145.ok
     have nk_168 := hP_168.nk
     have nl_168 := hP_168.nl
     have ng_168 := hP_168.ng
     have kL_168 := hP_168.kL
     have lq_168 := hP_168.lq
     have bd_168 := hP_168.d
     obtain ⟨mk_168, ml_168, mg_168⟩ := hP_168.m
     have hA_168 := hP_168.a
     have lm_168 := hP_168.lm
     have ld_168 := hP_168.ld
     have hLo_168 := FL_168.ok
     have hLd_168 := FL_168.dl
     have hLg_168 := FL_168.gl
     have hLk_168 := FL_168.lt
     have hLb_168 := FL_168.bl
     have hkl_168 := Fk_168.lt
     have ha_168k1 : k1 ≠ kl_168 ∧ k1 ≠ g_168 := by constructor <;> (intro e_; grind)
     refine V.drawQ mixed (by kernel_rfl) ?_
     refine V.qrun T_ok 4 rfl ?_
     refine V.qelemP T_ok rfl rfl rfl rfl rfl rfl (by first | omega | decide) (by first | omega | decide) ?_
     refine V.qloadO T_ok Fk_168 rfl rfl rfl rfl rfl ?_
     refine V.qrun T_ok 1 rfl ?_
     refine V.qcall V.clo (fun w1 g => (rlast_spec (F145.gr g))) rfl rfl rfl ?_
     refine V.qrun T_ok 1 rfl ?_
     refine V.qnil ?_
     rintro w169 G170
     have z171 := V.Fr.size G170
     refine V.tN ?_
     refine V.condT rfl (fun h13 => ?_) (fun h13 => ?_)
     ·
      try replace h13 := V.dec h13
      try simp only [V.mk] at h13
      
      refine V.region ?_
      refine V.ru 2 ?_
      replace F145 := F145.gr G170
      refine V.call (send_spec (to := 1) F145 ⟨by omega, by omega⟩ (by first | assumption | omega)) rfl rfl rfl ?_
      rintro _ w177 ⟨M172, D173, rfl, F174, h175, h176, G178⟩
      have z179 := V.FrE.size G178
      refine V.nil ?_
      rw [show apdV d mg = sendV (apd3 d mg) (1 : Int) from by (unfold apdV; rw [if_pos hyes, if_pos hok, hcs, if_pos (show getX (apd3 d mg) 1 ≤ lastI d.L from h13)])]
      refine V.doneN rfl ?_
      replace HG := HG.grow G170
      replace HG := HG.stepE G178 (by intro i h; (try dsimp only [V.In] at h ⊢); first | omega | grind)
      exact ⟨_, _, (by first | rfl | simp only [List.length_set]), F174, (by intro j h; (try dsimp only [V.In] at *); grind), (by intro j h; (try dsimp only [V.In] at *); grind), HG⟩
     ·
      try replace h13 := V.dec h13
      try simp only [V.mk] at h13
      
      refine V.skip ?_
      rw [show apdV d mg = apd3 d mg from by (unfold apdV; rw [if_pos hyes, if_pos hok, hcs, if_neg (show ¬ getX (apd3 d mg) 1 ≤ lastI d.L from by (have h13b := h13; first | exact h13b | exact Int.not_le.2 h13b))])]
      refine V.doneN rfl ?_
      replace F145 := F145.gr G170
      replace HG := HG.grow G170
      exact ⟨_, _, (by first | rfl | simp only [List.length_set]), F145, (by intro j h; (try dsimp only [V.In] at *); grind), (by intro j h; (try dsimp only [V.In] at *); grind), HG⟩
 ·
  replace FX := FX.gr G4
  obtain ⟨kl_180, g_180, B_180, SO_180, SC_180, ad_180, cd_180, ao_180, co_180, ac_180, cc_180, ch_180, hP_180, hc_180, Fk_180, FL_180, FQ_180⟩ := FX.ex
  obtain ⟨hid_180, hrg_180, hte_180, hco_180, hx0_180, hx1_180, hx2_180, hm0_180, hm1_180, hm2_180, hda_180⟩ := FX.ok
  have nk_180 := hP_180.nk
  have nl_180 := hP_180.nl
  have ng_180 := hP_180.ng
  have kL_180 := hP_180.kL
  have lq_180 := hP_180.lq
  have bd_180 := hP_180.d
  obtain ⟨mk_180, ml_180, mg_180⟩ := hP_180.m
  have hA_180 := hP_180.a
  have lm_180 := hP_180.lm
  have ld_180 := hP_180.ld
  have hLo_180 := FL_180.ok
  have hLd_180 := FL_180.dl
  have hLg_180 := FL_180.gl
  have hLk_180 := FL_180.lt
  have hLb_180 := FL_180.bl
  have hkl_180 := Fk_180.lt
  refine V.region ?_
  refine V.ru 1 ?_
  have Fc181 := Fk2
  rw [hcs] at Fc181
  refine V.loadO T_ok Fc181 rfl rfl rfl rfl rfl ?_
  refine V.ru 1 ?_
  refine V.nt ?_
  refine V.seq ?_
  refine V.block ?_
  replace F_me := F_me.gr G4
  replace F_md := F_md.gr G4
  replace HG := HG.grow G4
  refine V.seqJ (fun e v183 => V.FrE M w v183 ∧ w3.heap.size ≤ v183.heap.size ∧ Nd v183 k M D d ∧ Sl V.Cod.ent v183 D_me a_me c_me mg.es ∧ Sl V.Cod.byte v183 D_md a_md c_md mg.da ∧ Cells v183 k1 [.int .i64 mg.kd, .int .i64 mg.fr, .int .i64 mg.to, .int .i64 mg.rg, .int .i64 mg.te, .int .i64 mg.ix, .int .i64 mg.lt, .int .i64 mg.co, .bool mg.ok, .slice a_me mg.es.length c_me, .slice a_md mg.da.length c_md, .int .i64 q0, .int .i64 q1, .int .i64 q2, .int .i64 q3, .int .i64 q4, .int .i64 q5, .int .i64 q6, .int .i64 q7, .string q8, .int .i64 q9, .int .i64 q10, .int .i64 q11, .string q12, .string q13, .string q14, .bool q15, .int .i64 q16, .int .i64 q17, .int .i64 q18, .int .i64 q19, .bool q20, .bool q21, .slice q22a q22n q22c, .int .i64 q23, .int .i64 q24, .int .i64 q25, .int .i64 q26, .slice q27a q27n q27c, .bool q28, .int .i64 q29, .int .i64 q30, .string q31, .int .i64 q32, .int .i64 q33, .int .i64 q34, .int .i64 q35, .int .i64 q36, .int .i64 q37, .int .i64 q38, .int .i64 q39, .int .i64 q40, .slice q41a q41n q41c] 57 ∧ Cells v183 k [.int .i64 d.id, .int .i64 d.rg, .int .i64 d.te, .int .i64 d.vo, .int .i64 d.ro, .int .i64 d.le, .pointer (some ⟨kl_180, 0, none⟩), .int .i64 d.co, .slice ad_180 d.da.length cd_180, .bool d.v0, .bool d.v1, .bool d.v2, .int .i64 d.x0, .int .i64 d.x1, .int .i64 d.x2, .int .i64 d.m0, .int .i64 d.m1, .int .i64 d.m2, .slice ao_180 d.out.length co_180, .slice ac_180 ch_180.length cc_180] 101 ∧ Lg v183 kl_180 g_180 B_180 d.L ∧ Nq v183 SO_180 SC_180 D ad_180 cd_180 ao_180 co_180 ac_180 cc_180 ch_180 d.da d.out ∧ e 0 = .pointer (some ⟨k, 0, none⟩) ∧ e 3 = .pointer (some ⟨k1, 0, none⟩) ∧ e 4 = .int .i64 2 ∧ e 8 = .bool (decide (¬ mg.te = d.te) || decide (¬ d.ro = 2)) ∧ True) ?_ ?_
  ·
   refine V.drawQ mixed (by kernel_rfl) ?_
   refine V.qrun T_ok 1 rfl ?_
   refine V.qloadO T_ok Fk2 rfl rfl rfl rfl rfl ?_
   refine V.qrun T_ok 3 rfl ?_
   refine V.qloadO T_ok Fk_180 rfl rfl rfl rfl rfl ?_
   refine V.qrun T_ok 2 rfl ?_
   refine V.qsplit (j := 7) (t := 16) rfl rfl (fun g2_7 => ?_) (fun g2_7 => ?_)
   ·
    try replace g2_7 := V.dec g2_7
    try simp only [V.mk] at g2_7
    refine V.qrun T_ok 7 rfl ?_
    refine V.qnil ?_
    rintro w184 G185
    have z186 := V.Fr.size G185
    refine V.tN ?_
    replace FX := FX.gr G185
    replace F_me := F_me.gr G185
    replace F_md := F_md.gr G185
    replace Fk2 := Fk2.gr G185
    replace Fk_180 := Fk_180.gr G185
    replace FL_180 := FL_180.gr G185
    replace FQ_180 := FQ_180.gr G185
    replace HG := HG.grow G185
    exact ⟨HG, (by omega), FX, F_me, F_md, Fk2, Fk_180, FL_180, FQ_180, rfl, rfl, rfl, (congrArg Value.bool (by first | rfl | (simp_all; done) | grind)), trivial⟩
   ·
    try replace g2_7 := V.dec g2_7
    try simp only [V.mk] at g2_7
    refine V.qrun T_ok 3 rfl ?_
    refine V.qyes rfl rfl rfl ?_
    refine V.qloadO T_ok Fk_180 rfl rfl rfl rfl rfl ?_
    refine V.qrun T_ok 3 rfl ?_
    refine V.qnil ?_
    rintro w187 G188
    have z189 := V.Fr.size G188
    refine V.tN ?_
    replace FX := FX.gr G188
    replace F_me := F_me.gr G188
    replace F_md := F_md.gr G188
    replace Fk2 := Fk2.gr G188
    replace Fk_180 := Fk_180.gr G188
    replace FL_180 := FL_180.gr G188
    replace FQ_180 := FQ_180.gr G188
    replace HG := HG.grow G188
    exact ⟨HG, (by omega), FX, F_me, F_md, Fk2, Fk_180, FL_180, FQ_180, rfl, rfl, rfl, (congrArg Value.bool (by first | rfl | (simp_all; done) | grind)), trivial⟩
  clear HG FX F_me F_md Fk2 Fk_180 FL_180 FQ_180
  rintro e v183 ⟨HG, z190, FX, F_me, F_md, Fk2, Fk_180, FL_180, FQ_180, hjn182_0, hjn182_3, hjn182_4, hjn182_8, -⟩
  refine V.knownC (t := 0) hjn182_0 ?_
  refine V.knownC (t := 3) hjn182_3 ?_
  refine V.knownC (t := 4) hjn182_4 ?_
  refine V.knownC (t := 8) hjn182_8 ?_
  refine V.condT rfl (fun h2 => ?_) (fun h2 => ?_)
  ·
   try replace h2 := V.dec h2
   try simp only [V.mk] at h2
   have hno : ¬ (mg.te = d.te ∧ d.ro = 2) := by (try simp at h2); grind
   refine V.ret ?_
   refine V.bR ?_
   refine V.tR ?_
   rw [show apdV d mg = d from if_neg hno]
   refine V.done rfl ?_
   exact ⟨_, _, (by first | rfl | simp only [List.length_set]), FX, (by intro j h; (try dsimp only [V.In] at *); grind), (by intro j h; (try dsimp only [V.In] at *); grind), HG⟩
  ·
   try replace h2 := V.dec h2
   try simp only [V.mk] at h2
   have hyes : mg.te = d.te ∧ d.ro = 2 := by (try simp at h2); grind
   refine V.sr ?_
   refine V.ru 1 ?_
   refine V.loadO T_ok Fk2 rfl rfl rfl rfl rfl ?_
   refine V.ru 2 ?_
   refine V.nt ?_
   refine V.condT rfl (fun h3 => ?_) (fun h3 => ?_)
   ·
    try replace h3 := V.dec h3
    try simp only [V.mk] at h3
    have hok : ¬ mg.ok = true := by (have h3b := h3; simpa using h3b)
    refine V.seq ?_
    obtain ⟨kl_191, g_191, B_191, SO_191, SC_191, ad_191, cd_191, ao_191, co_191, ac_191, cc_191, ch_191, hP_191, hc_191, Fk_191, FL_191, FQ_191⟩ := FX.ex
    obtain ⟨hid_191, hrg_191, hte_191, hco_191, hx0_191, hx1_191, hx2_191, hm0_191, hm1_191, hm2_191, hda_191⟩ := FX.ok
    have nk_191 := hP_191.nk
    have nl_191 := hP_191.nl
    have ng_191 := hP_191.ng
    have kL_191 := hP_191.kL
    have lq_191 := hP_191.lq
    have bd_191 := hP_191.d
    obtain ⟨mk_191, ml_191, mg_191⟩ := hP_191.m
    have hA_191 := hP_191.a
    have lm_191 := hP_191.lm
    have ld_191 := hP_191.ld
    have hLo_191 := FL_191.ok
    have hLd_191 := FL_191.dl
    have hLg_191 := FL_191.gl
    have hLk_191 := FL_191.lt
    have hLb_191 := FL_191.bl
    have hkl_191 := Fk_191.lt
    clear FX
    refine V.drawT 17 mixed (by kernel_rfl) ?_
    rintro w192 G193 s194
    have z195 := V.Fr.size G193
    refine V.qrun T_ok 6 rfl ?_
    refine V.qelemP T_ok rfl rfl rfl rfl rfl rfl (by first | omega | decide) (by first | omega | decide) ?_
    replace Fk_191 := Fk_191.gr G193
    refine V.qloadO T_ok Fk_191 rfl rfl rfl rfl rfl ?_
    refine V.qsubN rfl rfl rfl rfl rfl V.lenA V.lenA ?_
    refine V.qrun T_ok 1 rfl ?_
    replace Fk2 := Fk2.gr G193
    refine V.qloadO T_ok Fk2 rfl rfl rfl rfl rfl ?_
    refine V.qaddN rfl rfl rfl rfl rfl V.lenA V.lenA ?_
    refine V.qrun T_ok 4 rfl ?_
    refine V.qelemP T_ok rfl rfl rfl rfl rfl rfl (by first | omega | decide) (by first | omega | decide) ?_
    refine V.qnil ?_
    refine V.storeO Fk_191 rfl rfl rfl rfl sz3 rfl rfl rfl rfl ?_
    rintro w196 G197 z199 Fs198
    clear Fk_191
    have z200 := V.Fr.size G197
    have Fk_191 := Fs198; clear Fs198
    simp only [V.spliceL, V.cellsL] at Fk_191
    refine V.nt ?_
    refine V.seq ?_
    replace FL_191 := FL_191.gr G193
    replace FL_191 := FL_191.mv1 G197 (by (try dsimp only [V.In]); first | omega | grind)
    replace FQ_191 := FQ_191.gr G193
    replace FQ_191 := FQ_191.mv1 G197 (by (try dsimp only [V.In]); first | omega | grind)
    have F201 : Nd w196 k M D ({ d with x2 := max (min (d.x2 - 1) (mg.ix + 1)) 1 }) := ⟨⟨hid_191, hrg_191, hte_191, hco_191, hx0_191, hx1_191, ⟨by dsimp only; omega, by dsimp only; omega⟩, hm0_191, hm1_191, hm2_191, hda_191⟩, _, _, _, _, _, _, _, _, _, _, _, _, (hP_191.up (by omega)), hc_191, Fk_191, FL_191, FQ_191⟩
    clear Fk_191 FL_191 FQ_191
    have hr202 : { d with x2 := max (min (d.x2 - 1) (mg.ix + 1)) 1 } = setX d mg.fr (max (min (getX d mg.fr - 1) (mg.ix + 1)) 1) := (by unfold setX getX; rw [hcs]; rfl)
    rw [hr202] at F201
    clear hr202
    have hs1 : (setX d mg.fr (max (min (getX d mg.fr - 1) (mg.ix + 1)) 1)).out.length + 1 ≤ 1000000 := hs
    refine V.region ?_
    refine V.ru 2 ?_
    refine V.call (send_spec (to := 2) F201 ⟨by omega, by omega⟩ (by first | assumption | omega)) rfl rfl rfl ?_
    rintro _ w208 ⟨M203, D204, rfl, F205, h206, h207, G209⟩
    have z210 := V.FrE.size G209
    refine V.nt ?_
    refine V.ret ?_
    refine V.bR ?_
    refine V.tR ?_
    rw [show apdV d mg = sendV (setX d mg.fr (max (min (getX d mg.fr - 1) (mg.ix + 1)) 1)) (2 : Int) from by (unfold apdV; rw [if_pos hyes, if_neg hok]; simp only [hcs])]
    refine V.done rfl ?_
    replace HG := HG.grow G193
    replace HG := HG.n1 G197 (by first | (refine Or.inr ?_; omega) | (refine Or.inl ?_; first | assumption | (dsimp only; grind)) | grind)
    replace HG := HG.stepE G209 (by intro i h; (try dsimp only [V.In] at h ⊢); first | omega | grind)
    exact ⟨_, _, (by first | rfl | simp only [List.length_set]), F205, (by intro j h; (try dsimp only [V.In] at *); grind), (by intro j h; (try dsimp only [V.In] at *); grind), HG⟩
   ·
    try replace h3 := V.dec h3
    try simp only [V.mk] at h3
    have hok : mg.ok = true := by (have h3b := h3; simpa using h3b)
    refine V.skip ?_
    refine V.bN ?_
    refine V.tN ?_
    refine V.seq ?_
    obtain ⟨kl_211, g_211, B_211, SO_211, SC_211, ad_211, cd_211, ao_211, co_211, ac_211, cc_211, ch_211, hP_211, hc_211, Fk_211, FL_211, FQ_211⟩ := FX.ex
    obtain ⟨hid_211, hrg_211, hte_211, hco_211, hx0_211, hx1_211, hx2_211, hm0_211, hm1_211, hm2_211, hda_211⟩ := FX.ok
    have nk_211 := hP_211.nk
    have nl_211 := hP_211.nl
    have ng_211 := hP_211.ng
    have kL_211 := hP_211.kL
    have lq_211 := hP_211.lq
    have bd_211 := hP_211.d
    obtain ⟨mk_211, ml_211, mg_211⟩ := hP_211.m
    have hA_211 := hP_211.a
    have lm_211 := hP_211.lm
    have ld_211 := hP_211.ld
    have hLo_211 := FL_211.ok
    have hLd_211 := FL_211.dl
    have hLg_211 := FL_211.gl
    have hLk_211 := FL_211.lt
    have hLb_211 := FL_211.bl
    have hkl_211 := Fk_211.lt
    clear FX
    have hli : lastI d.L = d.L.base + d.L.l.length := rfl
    refine V.drawGT 16 (V.sel [(11, (fun v wz => v = .int .i64 (lastI d.L)))]) mixed (by kernel_rfl) (V.mono_cons V.eqV_mono V.mono_nil) ?_
    refine V.grun T_ok 6 rfl (V.sel_none rfl) ?_
    refine V.gstep rfl rfl rfl (fun w_ _ => V.elemP_run T_ok rfl rfl rfl rfl (by first | omega | decide) (by first | omega | decide) w_) ?_
    refine V.gloadO T_ok (fun w' h => Fk_211.gr h.1) rfl rfl rfl rfl rfl rfl ?_
    refine V.grun T_ok 1 rfl (V.sel_none rfl) ?_
    refine V.gloadO T_ok (fun w' h => Fk2.gr h.1) rfl rfl rfl rfl rfl rfl ?_
    refine V.grun T_ok 1 rfl (V.sel_none rfl) ?_
    refine V.gcall (fun w' h => (rlast2_spec (Fk_211.gr h.1) (FL_211.gr h.1)).mono (by rintro v w'' ⟨rfl, G⟩; exact ⟨rfl, G⟩)) rfl rfl rfl rfl ?_
    rintro _ w212 - - rfl
    refine V.grun T_ok 4 rfl (V.sel_none rfl) ?_
    refine V.gnil ?_
    rintro w213 G214 hH215
    have z216 := V.Fr.size G214
    clear hH215
    refine V.elemP T_ok rfl rfl rfl rfl rfl rfl (by first | omega | decide) (by first | omega | decide) ?_
    replace Fk_211 := Fk_211.gr G214
    refine V.storeO Fk_211 rfl rfl rfl rfl sz3 rfl rfl rfl rfl ?_
    rintro w217 G218 z220 Fs219
    clear Fk_211
    have z221 := V.Fr.size G218
    have Fk_211 := Fs219; clear Fs219
    simp only [V.spliceL, V.cellsL] at Fk_211
    refine V.nt ?_
    refine V.seq ?_
    refine V.drawT 12 mixed (by kernel_rfl) ?_
    rintro w222 G223 s224
    have z225 := V.Fr.size G223
    refine V.qrun T_ok 6 rfl ?_
    refine V.qelemP T_ok rfl rfl rfl rfl rfl rfl (by first | omega | decide) (by first | omega | decide) ?_
    replace Fk_211 := Fk_211.gr G223
    refine V.qloadO T_ok Fk_211 rfl rfl rfl rfl rfl ?_
    refine V.qaddN rfl rfl rfl rfl rfl V.lenA V.lenA ?_
    refine V.qrun T_ok 2 rfl ?_
    refine V.qelemP T_ok rfl rfl rfl rfl rfl rfl (by first | omega | decide) (by first | omega | decide) ?_
    refine V.qnil ?_
    refine V.storeO Fk_211 rfl rfl rfl rfl sz3 rfl rfl rfl rfl ?_
    rintro w226 G227 z229 Fs228
    clear Fk_211
    have z230 := V.Fr.size G227
    have Fk_211 := Fs228; clear Fs228
    simp only [V.spliceL, V.cellsL] at Fk_211
    refine V.nt ?_
    refine V.seq ?_
    refine V.seq ?_
    replace FL_211 := FL_211.gr G214
    replace FL_211 := FL_211.mv1 G218 (by (try dsimp only [V.In]); first | omega | grind)
    replace FL_211 := FL_211.gr G223
    replace FL_211 := FL_211.mv1 G227 (by (try dsimp only [V.In]); first | omega | grind)
    replace FQ_211 := FQ_211.gr G214
    replace FQ_211 := FQ_211.mv1 G218 (by (try dsimp only [V.In]); first | omega | grind)
    replace FQ_211 := FQ_211.gr G223
    replace FQ_211 := FQ_211.mv1 G227 (by (try dsimp only [V.In]); first | omega | grind)
    have F231 : Nd w226 k M D ({ d with m2 := max d.m2 (min mg.ix (lastI d.L)), x2 := max d.m2 (min mg.ix (lastI d.L)) + 1 }) := ⟨⟨hid_211, hrg_211, hte_211, hco_211, hx0_211, hx1_211, ⟨by dsimp only; omega, by dsimp only; omega⟩, hm0_211, hm1_211, ⟨by dsimp only; omega, by dsimp only; omega⟩, hda_211⟩, _, _, _, _, _, _, _, _, _, _, _, _, (hP_211.up (by omega)), hc_211, Fk_211, FL_211, FQ_211⟩
    clear Fk_211 FL_211 FQ_211
    have hr232 : { d with m2 := max d.m2 (min mg.ix (lastI d.L)), x2 := max d.m2 (min mg.ix (lastI d.L)) + 1 } = apd2 d mg := (by unfold apd2 setX setM getM; rw [hcs]; rfl)
    rw [hr232] at F231
    clear hr232
    have hE1 : lastI (apd2 d mg).L = lastI d.L := rfl
    have hE2 : (apd2 d mg).co = d.co := rfl
    refine V.region ?_
    refine V.ru 1 ?_
    refine V.call (rlast_spec F231) rfl rfl rfl ?_
    rintro _ w233 ⟨rfl, G234⟩
    have z235 := V.Fr.size G234
    refine V.ru 1 ?_
    refine V.nt ?_
    refine V.block ?_
    replace F_me := F_me.gr G214
    replace F_me := F_me.mv1 G218 (by (try dsimp only [V.In]); first | omega | grind)
    replace F_me := F_me.gr G223
    replace F_me := F_me.mv1 G227 (by (try dsimp only [V.In]); first | omega | grind)
    replace F_me := F_me.gr G234
    replace F_md := F_md.gr G214
    replace F_md := F_md.mv1 G218 (by (try dsimp only [V.In]); first | omega | grind)
    replace F_md := F_md.gr G223
    replace F_md := F_md.mv1 G227 (by (try dsimp only [V.In]); first | omega | grind)
    replace F_md := F_md.gr G234
    replace Fk2 := Fk2.gr G214
    replace Fk2 := Fk2.ma G218
    replace Fk2 := Fk2.gr G223
    replace Fk2 := Fk2.ma G227
    replace Fk2 := Fk2.gr G234
    replace F231 := F231.gr G234
    replace HG := HG.grow G214
    replace HG := HG.n1 G218 (by first | (refine Or.inr ?_; omega) | (refine Or.inl ?_; first | assumption | (dsimp only; grind)) | grind)
    replace HG := HG.grow G223
    replace HG := HG.n1 G227 (by first | (refine Or.inr ?_; omega) | (refine Or.inl ?_; first | assumption | (dsimp only; grind)) | grind)
    replace HG := HG.grow G234
    refine V.loopM (fun m e v237 => V.FrE M w v237 ∧ w233.heap.size ≤ v237.heap.size ∧ Sl V.Cod.ent v237 D_me a_me c_me mg.es ∧ Sl V.Cod.byte v237 D_md a_md c_md mg.da ∧ Cells v237 k1 [.int .i64 mg.kd, .int .i64 mg.fr, .int .i64 mg.to, .int .i64 mg.rg, .int .i64 mg.te, .int .i64 mg.ix, .int .i64 mg.lt, .int .i64 mg.co, .bool mg.ok, .slice a_me mg.es.length c_me, .slice a_md mg.da.length c_md, .int .i64 q0, .int .i64 q1, .int .i64 q2, .int .i64 q3, .int .i64 q4, .int .i64 q5, .int .i64 q6, .int .i64 q7, .string q8, .int .i64 q9, .int .i64 q10, .int .i64 q11, .string q12, .string q13, .string q14, .bool q15, .int .i64 q16, .int .i64 q17, .int .i64 q18, .int .i64 q19, .bool q20, .bool q21, .slice q22a q22n q22c, .int .i64 q23, .int .i64 q24, .int .i64 q25, .int .i64 q26, .slice q27a q27n q27c, .bool q28, .int .i64 q29, .int .i64 q30, .string q31, .int .i64 q32, .int .i64 q33, .int .i64 q34, .int .i64 q35, .int .i64 q36, .int .i64 q37, .int .i64 q38, .int .i64 q39, .int .i64 q40, .slice q41a q41n q41c] 57 ∧ ∃ (c i : Int) (Mj Dj : Nat → Prop) , m = (i - (apd2 d mg).co).toNat ∧ i ≤ lastI d.L ∧ ((c = (apd2 d mg).co ∧ comF (apd2 d mg) (lastI d.L - d.co).toNat = comF (apd2 d mg) (i - (apd2 d mg).co).toNat) ∨ (c = comF (apd2 d mg) (lastI d.L - d.co).toNat ∧ i = c - 1)) ∧ (∀ j, Mj j → M j ∨ w3.heap.size ≤ j) ∧ (∀ j, Dj j → D j ∨ M j ∨ w.heap.size ≤ j) ∧ Nd v237 k Mj Dj ({ (apd2 d mg) with co := c }) ∧ e 0 = .pointer (some ⟨k, 0, none⟩) ∧ e 4 = .int .i64 2 ∧ e 5 = .int .i64 i) ?_ ?_
    ·
     have hr238 : apd2 d mg = { (apd2 d mg) with co := (apd2 d mg).co } := rfl
     rw [hr238] at F231
     clear hr238
     
     exact ⟨_, HG, (by omega), F_me, F_md, Fk2, ((apd2 d mg).co), (lastI d.L), (M), (D), rfl, (Int.le_refl _), (.inl ⟨rfl, rfl⟩), ((by intro j h; (try dsimp only [V.In] at h ⊢); grind)), ((by intro j h; (try dsimp only [V.In] at h ⊢); grind)), F231, rfl, rfl, rfl⟩
    clear HG F_me F_md Fk2 F231
    rintro _ e v237 ⟨HG, z239, F_me, F_md, Fk2, c, i, Mj, Dj, rfl, hil, hdis, hMj, hDj, F231, he0_0, he0_4, he0_5⟩
    refine V.knownC (t := 0) he0_0 ?_
    refine V.knownC (t := 4) he0_4 ?_
    refine V.knownC (t := 5) he0_5 ?_
    refine V.seq ?_
    refine V.seq ?_
    obtain ⟨kl_240, g_240, B_240, SO_240, SC_240, ad_240, cd_240, ao_240, co_240, ac_240, cc_240, ch_240, hP_240, hc_240, Fk_240, FL_240, FQ_240⟩ := F231.ex
    obtain ⟨hid_240, hrg_240, hte_240, hco_240, hx0_240, hx1_240, hx2_240, hm0_240, hm1_240, hm2_240, hda_240⟩ := F231.ok
    try dsimp only [turnV] at hid_240 hrg_240 hte_240 hco_240 hx0_240 hx1_240 hx2_240 hm0_240 hm1_240 hm2_240 hda_240
    have nk_240 := hP_240.nk
    have nl_240 := hP_240.nl
    have ng_240 := hP_240.ng
    have kL_240 := hP_240.kL
    have lq_240 := hP_240.lq
    have bd_240 := hP_240.d
    obtain ⟨mk_240, ml_240, mg_240⟩ := hP_240.m
    have hA_240 := hP_240.a
    have lm_240 := hP_240.lm
    have ld_240 := hP_240.ld
    have hLo_240 := FL_240.ok
    have hLd_240 := FL_240.dl
    have hLg_240 := FL_240.gl
    have hLk_240 := FL_240.lt
    have hLb_240 := FL_240.bl
    have hkl_240 := Fk_240.lt
    have ha_240k1 : k1 ≠ kl_240 ∧ k1 ≠ g_240 := by constructor <;> (intro e_; grind)
    refine V.region ?_
    refine V.ru 4 ?_
    refine V.loadO T_ok Fk_240 rfl rfl rfl rfl rfl ?_
    refine V.ru 1 ?_
    refine V.nt ?_
    refine V.condT rfl (fun h9 => ?_) (fun h9 => ?_)
    ·
     try replace h9 := V.dec h9
     try simp only [V.mk] at h9
     refine V.skip ?_
     refine V.tN ?_
     refine V.seq ?_
     refine V.block ?_
     refine V.seq ?_
     have hc7 : c < i := h9
     obtain ⟨hcc, hc8⟩ : c = (apd2 d mg).co ∧ comF (apd2 d mg) (lastI d.L - d.co).toNat = comF (apd2 d mg) (i - (apd2 d mg).co).toNat := by rcases hdis with hq | hq; exact hq; exact absurd hq.2 (by omega)
     have hr241 : { (apd2 d mg) with co := c } = apd2 d mg := (by rw [hcc])
     rw [hr241] at F231
     clear hr241
     refine V.region ?_
     refine V.ru 2 ?_
     refine V.call (had_spec (i := i) F231) rfl rfl rfl ?_
     rintro _ w242 ⟨rfl, G243⟩
     have z244 := V.Fr.size G243
     refine V.nt ?_
     refine V.condT rfl (fun h11 => ?_) (fun h11 => ?_)
     ·
      try replace h11 := V.dec h11
      try simp only [V.mk] at h11
      
      replace F231 := F231.gr G243
      obtain ⟨kl_245, g_245, B_245, SO_245, SC_245, ad_245, cd_245, ao_245, co_245, ac_245, cc_245, ch_245, hP_245, hc_245, Fk_245, FL_245, FQ_245⟩ := F231.ex
      obtain ⟨hid_245, hrg_245, hte_245, hco_245, hx0_245, hx1_245, hx2_245, hm0_245, hm1_245, hm2_245, hda_245⟩ := F231.ok
      have nk_245 := hP_245.nk
      have nl_245 := hP_245.nl
      have ng_245 := hP_245.ng
      have kL_245 := hP_245.kL
      have lq_245 := hP_245.lq
      have bd_245 := hP_245.d
      obtain ⟨mk_245, ml_245, mg_245⟩ := hP_245.m
      have hA_245 := hP_245.a
      have lm_245 := hP_245.lm
      have ld_245 := hP_245.ld
      have hLo_245 := FL_245.ok
      have hLd_245 := FL_245.dl
      have hLg_245 := FL_245.gl
      have hLk_245 := FL_245.lt
      have hLb_245 := FL_245.bl
      have hkl_245 := Fk_245.lt
      have ha_245k1 : k1 ≠ kl_245 ∧ k1 ≠ g_245 := by constructor <;> (intro e_; grind)
      clear F231
      refine V.region ?_
      refine V.ru 4 ?_
      refine V.storeO Fk_245 rfl rfl rfl rfl sz3 rfl rfl rfl rfl ?_
      rintro w246 G247 z249 Fs248
      clear Fk_245
      have z250 := V.Fr.size G247
      have Fk_245 := Fs248; clear Fs248
      simp only [V.spliceL, V.cellsL] at Fk_245
      refine V.nil ?_
      refine V.bN ?_
      refine V.tN ?_
      replace FL_245 := FL_245.mv1 G247 (by (try dsimp only [V.In]); first | omega | grind)
      replace FQ_245 := FQ_245.mv1 G247 (by (try dsimp only [V.In]); first | omega | grind)
      have F251 : Nd w246 k Mj Dj ({ (apd2 d mg) with co := i }) := ⟨⟨hid_245, hrg_245, hte_245, ⟨by dsimp only; omega, by dsimp only; omega⟩, hx0_245, hx1_245, hx2_245, hm0_245, hm1_245, hm2_245, hda_245⟩, _, _, _, _, _, _, _, _, _, _, _, _, (hP_245.up (by omega)), hc_245, Fk_245, FL_245, FQ_245⟩
      clear Fk_245 FL_245 FQ_245
      refine V.region ?_
      refine V.ru 1 ?_
      refine V.subN rfl rfl rfl rfl rfl V.lenA V.lenA ?_
      refine V.ru 1 ?_
      refine V.nt ?_
      replace F_me := F_me.gr G243
      replace F_me := F_me.mv1 G247 (by (try dsimp only [V.In]); first | omega | grind)
      replace F_md := F_md.gr G243
      replace F_md := F_md.mv1 G247 (by (try dsimp only [V.In]); first | omega | grind)
      replace Fk2 := Fk2.gr G243
      replace Fk2 := Fk2.ma G247
      replace HG := HG.grow G243
      replace HG := HG.n1 G247 (by first | (refine Or.inr ?_; omega) | (refine Or.inl ?_; first | assumption | (dsimp only; grind)) | grind)
      exact ⟨_, (by omega), HG, (by omega), F_me, F_md, Fk2, (i), (i - 1), (Mj), (Dj), rfl, (by omega), (.inr ⟨(comF_yes (by omega) h11).symm.trans (by rw [← hc8]), rfl⟩), ((by intro j h; (try dsimp only [V.In] at h ⊢); grind)), ((by intro j h; (try dsimp only [V.In] at h ⊢); grind)), F251, rfl, rfl, rfl⟩
     ·
      try replace h11 := V.dec h11
      try simp only [V.mk] at h11
      
      refine V.skip ?_
      refine V.bN ?_
      refine V.tN ?_
      refine V.region ?_
      refine V.ru 1 ?_
      refine V.subN rfl rfl rfl rfl rfl V.lenA V.lenA ?_
      refine V.ru 1 ?_
      refine V.nt ?_
      have hr252 : apd2 d mg = { (apd2 d mg) with co := (apd2 d mg).co } := rfl
      replace F231 := F231.gr G243
      rw [hr252] at F231
      clear hr252
      replace F_me := F_me.gr G243
      replace F_md := F_md.gr G243
      replace Fk2 := Fk2.gr G243
      replace HG := HG.grow G243
      exact ⟨_, (by omega), HG, (by omega), F_me, F_md, Fk2, ((apd2 d mg).co), (i - 1), (Mj), (Dj), rfl, (by omega), (.inl ⟨rfl, hc8.trans (comF_no (by omega) (by have h11b := h11; first | exact h11b | (rw [h11b]; decide)))⟩), ((by intro j h; (try dsimp only [V.In] at h ⊢); grind)), ((by intro j h; (try dsimp only [V.In] at h ⊢); grind)), F231, rfl, rfl, rfl⟩
    ·
     try replace h9 := V.dec h9
     try simp only [V.mk] at h9
     refine V.exit ?_
     refine V.tX ?_
     refine V.tX ?_
     refine V.bE ?_
     refine V.tN ?_
     refine V.seq ?_
     have hc7 : ¬ c < i := by (have h9b := h9; first | exact h9b | exact Int.not_lt.2 h9b)
     have hcf : c = comF (apd2 d mg) (lastI d.L - d.co).toNat := comF_end hc7 hdis
     have hr253 : { (apd2 d mg) with co := c } = apd3 d mg := (by rw [hcf]; rfl)
     rw [hr253] at F231
     clear hr253
     obtain ⟨kl_254, g_254, B_254, SO_254, SC_254, ad_254, cd_254, ao_254, co_254, ac_254, cc_254, ch_254, hP_254, hc_254, Fk_254, FL_254, FQ_254⟩ := F231.ex
     obtain ⟨hid_254, hrg_254, hte_254, hco_254, hx0_254, hx1_254, hx2_254, hm0_254, hm1_254, hm2_254, hda_254⟩ := F231.ok
     have nk_254 := hP_254.nk
     have nl_254 := hP_254.nl
     have ng_254 := hP_254.ng
     have kL_254 := hP_254.kL
     have lq_254 := hP_254.lq
     have bd_254 := hP_254.d
     obtain ⟨mk_254, ml_254, mg_254⟩ := hP_254.m
     have hA_254 := hP_254.a
     have lm_254 := hP_254.lm
     have ld_254 := hP_254.ld
     have hLo_254 := FL_254.ok
     have hLd_254 := FL_254.dl
     have hLg_254 := FL_254.gl
     have hLk_254 := FL_254.lt
     have hLb_254 := FL_254.bl
     have hkl_254 := Fk_254.lt
     have ha_254k1 : k1 ≠ kl_254 ∧ k1 ≠ g_254 := by constructor <;> (intro e_; grind)
     refine V.drawQ mixed (by kernel_rfl) ?_
     refine V.qrun T_ok 4 rfl ?_
     refine V.qelemP T_ok rfl rfl rfl rfl rfl rfl (by first | omega | decide) (by first | omega | decide) ?_
     refine V.qloadO T_ok Fk_254 rfl rfl rfl rfl rfl ?_
     refine V.qrun T_ok 1 rfl ?_
     refine V.qcall V.clo (fun w1 g => (rlast_spec (F231.gr g))) rfl rfl rfl ?_
     refine V.qrun T_ok 1 rfl ?_
     refine V.qnil ?_
     rintro w255 G256
     have z257 := V.Fr.size G256
     refine V.tN ?_
     refine V.condT rfl (fun h13 => ?_) (fun h13 => ?_)
     ·
      try replace h13 := V.dec h13
      try simp only [V.mk] at h13
      
      refine V.region ?_
      refine V.ru 2 ?_
      replace F231 := F231.gr G256
      refine V.call (send_spec (to := 2) F231 ⟨by omega, by omega⟩ (by first | assumption | omega)) rfl rfl rfl ?_
      rintro _ w263 ⟨M258, D259, rfl, F260, h261, h262, G264⟩
      have z265 := V.FrE.size G264
      refine V.nil ?_
      rw [show apdV d mg = sendV (apd3 d mg) (2 : Int) from by (unfold apdV; rw [if_pos hyes, if_pos hok, hcs, if_pos (show getX (apd3 d mg) 2 ≤ lastI d.L from h13)])]
      refine V.doneN rfl ?_
      replace HG := HG.grow G256
      replace HG := HG.stepE G264 (by intro i h; (try dsimp only [V.In] at h ⊢); first | omega | grind)
      exact ⟨_, _, (by first | rfl | simp only [List.length_set]), F260, (by intro j h; (try dsimp only [V.In] at *); grind), (by intro j h; (try dsimp only [V.In] at *); grind), HG⟩
     ·
      try replace h13 := V.dec h13
      try simp only [V.mk] at h13
      
      refine V.skip ?_
      rw [show apdV d mg = apd3 d mg from by (unfold apdV; rw [if_pos hyes, if_pos hok, hcs, if_neg (show ¬ getX (apd3 d mg) 2 ≤ lastI d.L from by (have h13b := h13; first | exact h13b | exact Int.not_le.2 h13b))])]
      refine V.doneN rfl ?_
      replace F231 := F231.gr G256
      replace HG := HG.grow G256
      exact ⟨_, _, (by first | rfl | simp only [List.length_set]), F231, (by intro j h; (try dsimp only [V.In] at *); grind), (by intro j h; (try dsimp only [V.In] at *); grind), HG⟩

end Go.Proofs.Ytphohfpbdkgnaaa
