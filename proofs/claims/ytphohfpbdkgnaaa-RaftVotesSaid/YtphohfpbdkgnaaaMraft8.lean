/- Proved here: walks: what functions of this seat's program return and what they leave of memory, each as a contract. Conditions: stated at each theorem. -/
import Derived.Test.YtphohfpbdkgnaaaMraft7
namespace Go.Proofs.Ytphohfpbdkgnaaa
set_option linter.unusedVariables false
set_option linter.unusedSimpArgs false
open Go
open V (Bytes Meets Env Sl Own Gr Fr Cells S)
set_option maxHeartbeats 4000000 in
set_option maxRecDepth 10000 in
theorem snp_spec {w : World} {k : Nat} {M D : Nat → Prop} {d : NodeV} (FX : Nd w k M D d) {mg : RMsg} {q0 : Int} {q1 : Int} {q2 : Int} {q3 : Int} {q4 : Int} {q5 : Int} {q6 : Int} {q7 : Int} {q8 : ByteArray} {q9 : Int} {q10 : Int} {q11 : Int} {q12 : ByteArray} {q13 : ByteArray} {q14 : ByteArray} {q15 : Bool} {q16 : Int} {q17 : Int} {q18 : Int} {q19 : Int} {q20 : Bool} {q21 : Bool} {q22a : Option Addr} {q22n q22c : Nat} {q23 : Int} {q24 : Int} {q25 : Int} {q26 : Int} {q27a : Option Addr} {q27n q27c : Nat} {q28 : Bool} {q29 : Int} {q30 : Int} {q31 : ByteArray} {q32 : Int} {q33 : Int} {q34 : Int} {q35 : Int} {q36 : Int} {q37 : Int} {q38 : Int} {q39 : Int} {q40 : Int} {q41a : Option Addr} {q41n q41c : Nat} {D_me : Nat → Prop} {c_me : Nat} {a_me : Option Addr} (F_me : Sl V.Cod.ent w D_me a_me c_me mg.es) (hD_me : ∀ k, D_me k → k < w.heap.size) {D_md : Nat → Prop} {c_md : Nat} {a_md : Option Addr} (F_md : Sl V.Cod.byte w D_md a_md c_md mg.da) (hD_md : ∀ k, D_md k → k < w.heap.size)  (hMe : ∀ j, D_me j → ¬ M j) (hMm : ∀ j, D_md j → ¬ M j) (hix : 0 ≤ mg.ix ∧ mg.ix ≤ 1099511627776) (hlt : 0 ≤ mg.lt ∧ mg.lt ≤ 1099511627776) (hs : d.out.length + 1 ≤ 1000000) (hn : d.nc + 2 ≤ 1000000) (hdl : mg.da.length ≤ 1000000) :
    Meets Try.prog 56 [.pointer (some ⟨k, 0, none⟩), .agg #[.int .i64 mg.kd, .int .i64 mg.fr, .int .i64 mg.to, .int .i64 mg.rg, .int .i64 mg.te, .int .i64 mg.ix, .int .i64 mg.lt, .int .i64 mg.co, .bool mg.ok, .slice a_me mg.es.length c_me, .slice a_md mg.da.length c_md, .int .i64 q0, .int .i64 q1, .int .i64 q2, .int .i64 q3, .int .i64 q4, .int .i64 q5, .int .i64 q6, .int .i64 q7, .string q8, .int .i64 q9, .int .i64 q10, .int .i64 q11, .string q12, .string q13, .string q14, .bool q15, .int .i64 q16, .int .i64 q17, .int .i64 q18, .int .i64 q19, .bool q20, .bool q21, .slice q22a q22n q22c, .int .i64 q23, .int .i64 q24, .int .i64 q25, .int .i64 q26, .slice q27a q27n q27c, .bool q28, .int .i64 q29, .int .i64 q30, .string q31, .int .i64 q32, .int .i64 q33, .int .i64 q34, .int .i64 q35, .int .i64 q36, .int .i64 q37, .int .i64 q38, .int .i64 q39, .int .i64 q40, .slice q41a q41n q41c]] w fun r w' => ∃ (rM34 : Nat → Prop) (rD34 : Nat → Prop), r = .tuple #[] ∧ Nd w' k rM34 rD34 (snpV d mg) ∧ (∀ j, rM34 j → M j ∨ w.heap.size ≤ j) ∧ (∀ j, rD34 j → D j ∨ M j ∨ w.heap.size ≤ j) ∧ V.FrE M w w' := by
 have hM := FX.lm
 have hk0 := FX.lm _ FX.mk'
 have hD := FX.ld
 have hMD := FX.dj
 have hMk := FX.mk'
 have HG := V.FrE.refl M w
 refine V.enter (n := 100) Try.func56 rfl rfl (by decide) rfl ?_
 refine V.sr ?_
 refine V.box rfl rfl rfl rfl ?_
 rintro k1 w3 s5 s6 G4 Fk2
 have z7 := V.Fr.size G4
 try simp only [V.cellsL, V.spliceL] at Fk2
 refine V.nt ?_
 refine V.seq ?_
 refine V.sr ?_
 refine V.ru 1 ?_
 refine V.loadO T_ok Fk2 rfl rfl rfl rfl rfl ?_
 replace FX := FX.gr G4
 replace F_me := F_me.gr G4
 replace F_md := F_md.gr G4
 refine V.call (old_spec (mg := mg) FX F_me (by intro k h; (try dsimp only [V.In] at h ⊢); first | omega | grind) F_md (by intro k h; (try dsimp only [V.In] at h ⊢); first | omega | grind) (by intro j h; first | exact h.elim | (have a1 := hM j; (try dsimp only [V.In] at h); grind)) (by intro j h; first | exact h.elim | (have a1 := hM j; (try dsimp only [V.In] at h); grind)) (by first | assumption | omega)) rfl rfl rfl ?_
 rintro _ w13 ⟨M8, D9, rfl, F10, h11, h12, G14⟩
 have z15 := V.FrE.size G14
 refine V.nt ?_
 refine V.condT rfl (fun h1 => ?_) (fun h1 => ?_)
 ·
  try replace h1 := V.dec h1
  try simp only [V.mk] at h1
  have ho : mg.te < d.te := by (have h1b := h1; unfold oldB at h1b; simpa using h1b)
  refine V.ret ?_
  refine V.tR ?_
  rw [show snpV d mg = oldV d mg from if_pos ho]
  refine V.done rfl ?_
  replace HG := HG.grow G4
  replace HG := HG.stepE G14 (by intro i h; (try dsimp only [V.In] at h ⊢); first | omega | grind)
  exact ⟨_, _, (by first | rfl | simp only [List.length_set]), F10, (by intro j h; (try dsimp only [V.In] at *); grind), (by intro j h; (try dsimp only [V.In] at *); grind), HG⟩
 ·
  try replace h1 := V.dec h1
  try simp only [V.mk] at h1
  have ho : ¬ mg.te < d.te := by (have h1b := h1; unfold oldB at h1b; simpa using h1b)
  refine V.skip ?_
  refine V.tN ?_
  refine V.seq ?_
  refine V.seq ?_
  have hr16 : oldV d mg = turnV d d.te 0 mg.fr := if_pos (by omega)
  rw [hr16] at F10
  clear hr16
  obtain ⟨kl_17, g_17, B_17, SO_17, SC_17, ad_17, cd_17, ao_17, co_17, ac_17, cc_17, ch_17, hP_17, hc_17, Fk_17, FL_17, FQ_17⟩ := F10.ex
  obtain ⟨hid_17, hrg_17, hte_17, hco_17, hx0_17, hx1_17, hx2_17, hm0_17, hm1_17, hm2_17, hda_17⟩ := F10.ok
  try dsimp only [turnV] at hid_17 hrg_17 hte_17 hco_17 hx0_17 hx1_17 hx2_17 hm0_17 hm1_17 hm2_17 hda_17
  have nk_17 := hP_17.nk
  have nl_17 := hP_17.nl
  have ng_17 := hP_17.ng
  have kL_17 := hP_17.kL
  have lq_17 := hP_17.lq
  have bd_17 := hP_17.d
  obtain ⟨mk_17, ml_17, mg_17⟩ := hP_17.m
  have hA_17 := hP_17.a
  have lm_17 := hP_17.lm
  have ld_17 := hP_17.ld
  have hLo_17 := FL_17.ok
  have hLd_17 := FL_17.dl
  have hLg_17 := FL_17.gl
  have hLk_17 := FL_17.lt
  have hLb_17 := FL_17.bl
  have hkl_17 := Fk_17.lt
  have ha_17k1 : k1 ≠ kl_17 ∧ k1 ≠ g_17 := by constructor <;> (intro e_; grind)
  refine V.drawQ mixed (by kernel_rfl) ?_
  refine V.qrun T_ok 1 rfl ?_
  replace Fk2 := Fk2.mvE G14 (by (try dsimp only [V.In]); first | omega | grind)
  refine V.qloadO T_ok Fk2 rfl rfl rfl rfl rfl ?_
  refine V.qrun T_ok 3 rfl ?_
  refine V.qloadO T_ok Fk_17 rfl rfl rfl rfl rfl ?_
  refine V.qrun T_ok 1 rfl ?_
  refine V.qnil ?_
  rintro w18 G19
  have z20 := V.Fr.size G19
  refine V.tN ?_
  refine V.condT rfl (fun h2 => ?_) (fun h2 => ?_)
  ·
   try replace h2 := V.dec h2
   try simp only [V.mk] at h2
   have h2b : mg.ix ≤ d.co := h2
   refine V.seq ?_
   refine V.drawT 8 mixed (by kernel_rfl) ?_
   rintro w21 G22 s23
   have z24 := V.Fr.size G22
   refine V.qrun T_ok 2 rfl ?_
   replace Fk2 := Fk2.gr (G19.trans G22)
   refine V.qloadO T_ok Fk2 rfl rfl rfl rfl rfl ?_
   refine V.qrun T_ok 3 rfl ?_
   replace Fk_17 := Fk_17.gr (G19.trans G22)
   refine V.qloadO T_ok Fk_17 rfl rfl rfl rfl rfl ?_
   refine V.qmkStruct T_ok zero57 rfl rfl rfl rfl rfl ?_
   refine V.qnil ?_
   replace F10 := F10.gr (G19.trans G22)
   refine V.call (tell_spec (to := mg.fr) (m := (⟨4, 0, 0, 0, 0, (turnV d d.te 0 mg.fr).co, 0, 0, true, [], []⟩ : RMsg)) F10 (Sl.nil _ _ V.None' _ _ (Nat.zero_le _)) (fun _ h => h.elim) (Sl.nil _ _ V.None' _ _ (Nat.zero_le _)) (fun _ h => h.elim) (by intro j h; first | exact h.elim | (have a1 := hM j; (try dsimp only [V.In] at h); grind)) (by intro j h; first | exact h.elim | (have a1 := hM j; (try dsimp only [V.In] at h); grind)) (by first | assumption | omega | (dsimp only [turnV]; omega))) rfl rfl rfl ?_
   rintro _ w30 ⟨M25, D26, rfl, F27, h28, h29, G31⟩
   have z32 := V.FrE.size G31
   refine V.nt ?_
   refine V.ret ?_
   refine V.tR ?_
   rw [show snpV d mg = tellV (turnV d d.te 0 mg.fr) mg.fr (⟨4, 0, 0, 0, 0, (turnV d d.te 0 mg.fr).co, 0, 0, true, [], []⟩ : RMsg) from (if_neg ho).trans (if_pos h2b)]
   refine V.done rfl ?_
   replace HG := HG.grow G4
   replace HG := HG.stepE G14 (by intro i h; (try dsimp only [V.In] at h ⊢); first | omega | grind)
   replace HG := HG.grow (G19.trans G22)
   replace HG := HG.stepE G31 (by intro i h; (try dsimp only [V.In] at h ⊢); first | omega | grind)
   exact ⟨_, _, (by first | rfl | simp only [List.length_set]), F27, (by intro j h; (try dsimp only [V.In] at *); grind), (by intro j h; (try dsimp only [V.In] at *); grind), HG⟩
  ·
   try replace h2 := V.dec h2
   try simp only [V.mk] at h2
   have h2b : ¬ mg.ix ≤ d.co := by (have h2c := h2; first | exact h2c | exact Int.not_le.2 h2c)
   refine V.skip ?_
   refine V.tN ?_
   replace F_me := F_me.mvE G14 (by intro j h hd; (try dsimp only [V.In] at h hd ⊢); first | omega | grind)
   replace F_me := F_me.gr G19
   replace F_md := F_md.mvE G14 (by intro j h hd; (try dsimp only [V.In] at h hd ⊢); first | omega | grind)
   replace F_md := F_md.gr G19
   replace Fk2 := Fk2.gr G19
   replace F10 := F10.gr G19
   replace Fk_17 := Fk_17.gr G19
   replace FL_17 := FL_17.gr G19
   replace FQ_17 := FQ_17.gr G19
   replace HG := HG.grow G4
   replace HG := HG.stepE G14 (by intro i h; (try dsimp only [V.In] at h ⊢); first | omega | grind)
   replace HG := HG.grow G19
   refine V.seqJ (fun e v34 => V.FrE M w v34 ∧ w18.heap.size ≤ v34.heap.size ∧ Sl V.Cod.ent v34 D_me a_me c_me mg.es ∧ Sl V.Cod.byte v34 D_md a_md c_md mg.da ∧ Cells v34 k1 [.int .i64 mg.kd, .int .i64 mg.fr, .int .i64 mg.to, .int .i64 mg.rg, .int .i64 mg.te, .int .i64 mg.ix, .int .i64 mg.lt, .int .i64 mg.co, .bool mg.ok, .slice a_me mg.es.length c_me, .slice a_md mg.da.length c_md, .int .i64 q0, .int .i64 q1, .int .i64 q2, .int .i64 q3, .int .i64 q4, .int .i64 q5, .int .i64 q6, .int .i64 q7, .string q8, .int .i64 q9, .int .i64 q10, .int .i64 q11, .string q12, .string q13, .string q14, .bool q15, .int .i64 q16, .int .i64 q17, .int .i64 q18, .int .i64 q19, .bool q20, .bool q21, .slice q22a q22n q22c, .int .i64 q23, .int .i64 q24, .int .i64 q25, .int .i64 q26, .slice q27a q27n q27c, .bool q28, .int .i64 q29, .int .i64 q30, .string q31, .int .i64 q32, .int .i64 q33, .int .i64 q34, .int .i64 q35, .int .i64 q36, .int .i64 q37, .int .i64 q38, .int .i64 q39, .int .i64 q40, .slice q41a q41n q41c] 57 ∧ ∃ (MJ DJ : Nat → Prop), (∀ j, MJ j → M j ∨ w3.heap.size ≤ j) ∧ (∀ j, DJ j → D j ∨ M j ∨ w.heap.size ≤ j) ∧ Nd v34 k MJ DJ ({ turnV d d.te 0 mg.fr with L := if isV d.L mg.ix = true ∧ trmV d.L mg.ix = mg.lt then cmpV d.L mg.ix else ⟨mg.ix, mg.lt, []⟩, nc := if isV d.L mg.ix = true ∧ trmV d.L mg.ix = mg.lt then d.nc else d.nc + 1 }) ∧ e 0 = .pointer (some ⟨k, 0, none⟩) ∧ e 3 = .pointer (some ⟨k1, 0, none⟩) ∧ True) ?_ ?_
   ·
    refine V.seq ?_
    refine V.drawQ mixed (by kernel_rfl) ?_
    refine V.qrun T_ok 3 rfl ?_
    refine V.qloadO T_ok Fk_17 rfl rfl rfl rfl rfl ?_
    refine V.qrun T_ok 1 rfl ?_
    refine V.qloadO T_ok Fk2 rfl rfl rfl rfl rfl ?_
    refine V.qcall V.clo (fun w1 g => (term_spec (i := mg.ix) (FL_17.gr g))) rfl rfl rfl ?_
    refine V.qrun T_ok 5 rfl ?_
    refine V.qnil ?_
    rintro w35 G36
    have z37 := V.Fr.size G36
    refine V.tN ?_
    refine V.sr ?_
    refine V.ru 2 ?_
    refine V.split (j := 1) (t := 38) rfl rfl (fun g5_1 => ?_) (fun g5_1 => ?_)
    ·
     try replace g5_1 := V.dec g5_1
     try simp only [V.mk] at g5_1
     refine V.ru 2 ?_
     refine V.yes rfl rfl rfl ?_
     replace Fk2 := Fk2.gr G36
     refine V.loadO T_ok Fk2 rfl rfl rfl rfl rfl ?_
     refine V.ru 2 ?_
     refine V.nt ?_
     refine V.condT rfl (fun h5 => ?_) (fun h5 => ?_)
     ·
      try replace h5 := V.dec h5
      try simp only [V.mk] at h5
      have hys : isV d.L mg.ix = true ∧ trmV d.L mg.ix = mg.lt := by (first | exact ⟨g5_1, h5⟩ | exact h5 | exact ⟨h5.1, h5.2⟩ | grind)
      replace F10 := F10.gr G36
      obtain ⟨kl_38, g_38, B_38, SO_38, SC_38, ad_38, cd_38, ao_38, co_38, ac_38, cc_38, ch_38, hP_38, hc_38, Fk_38, FL_38, FQ_38⟩ := F10.ex
      obtain ⟨hid_38, hrg_38, hte_38, hco_38, hx0_38, hx1_38, hx2_38, hm0_38, hm1_38, hm2_38, hda_38⟩ := F10.ok
      try dsimp only [turnV] at hid_38 hrg_38 hte_38 hco_38 hx0_38 hx1_38 hx2_38 hm0_38 hm1_38 hm2_38 hda_38
      have nk_38 := hP_38.nk
      have nl_38 := hP_38.nl
      have ng_38 := hP_38.ng
      have kL_38 := hP_38.kL
      have lq_38 := hP_38.lq
      have bd_38 := hP_38.d
      obtain ⟨mk_38, ml_38, mg_38⟩ := hP_38.m
      have hA_38 := hP_38.a
      have lm_38 := hP_38.lm
      have ld_38 := hP_38.ld
      have hLo_38 := FL_38.ok
      have hLd_38 := FL_38.dl
      have hLg_38 := FL_38.gl
      have hLk_38 := FL_38.lt
      have hLb_38 := FL_38.bl
      have hkl_38 := Fk_38.lt
      have ha_38k1 : k1 ≠ kl_38 ∧ k1 ≠ g_38 := by constructor <;> (intro e_; grind)
      clear F10
      refine V.drawT 6 mixed (by kernel_rfl) ?_
      rintro w39 G40 s41
      have z42 := V.Fr.size G40
      refine V.qrun T_ok 3 rfl ?_
      replace Fk_38 := Fk_38.gr G40
      refine V.qloadO T_ok Fk_38 rfl rfl rfl rfl rfl ?_
      refine V.qrun T_ok 1 rfl ?_
      replace Fk2 := Fk2.gr G40
      refine V.qloadO T_ok Fk2 rfl rfl rfl rfl rfl ?_
      refine V.qnil ?_
      replace FL_38 := FL_38.gr G40
      refine V.call (compact_spec (i := mg.ix) FL_38) rfl rfl rfl ?_
      rintro _ w48 ⟨g43, B44, rfl, F45, h46, h47, G49⟩
      have z50 := V.Fr.size G49
      refine V.nt ?_
      have nk9_38 := F45.nk
      have ng9_38 := F45.ng
      have gl9_38 := F45.gl
      have bl9_38 := F45.bl
      replace Fk_38 := Fk_38.ma G49
      replace FQ_38 := FQ_38.gr G40
      replace FQ_38 := FQ_38.mv1 G49 (by (try dsimp only [V.In]); first | omega | grind)
      have F51 : Nd w48 k (fun j => (M8 j ∧ (j ≠ g_38 ∨ g43 = g_38 ∨ j = kl_38)) ∨ j = g43) (fun j => D9 j ∨ B44 j) ({ turnV d d.te 0 mg.fr with L := cmpV d.L mg.ix, nc := d.nc }) := ⟨⟨hid_38, hrg_38, hte_38, hco_38, hx0_38, hx1_38, hx2_38, hm0_38, hm1_38, hm2_38, hda_38⟩, _, _, _, _, _, _, _, _, _, _, _, _, (hP_38.setL (by omega) (by omega) gl9_38 (by intro j h; grind) bl9_38 ng9_38 nk9_38), hc_38, Fk_38, F45, (FQ_38.mono (fun j h => .inl h))⟩
      clear Fk_38 F45 FQ_38
      have hr52 : { turnV d d.te 0 mg.fr with L := cmpV d.L mg.ix, nc := d.nc } = { turnV d d.te 0 mg.fr with L := if isV d.L mg.ix = true ∧ trmV d.L mg.ix = mg.lt then cmpV d.L mg.ix else ⟨mg.ix, mg.lt, []⟩, nc := if isV d.L mg.ix = true ∧ trmV d.L mg.ix = mg.lt then d.nc else d.nc + 1 } := (by rw [if_pos hys, if_pos hys])
      rw [hr52] at F51
      clear hr52
      replace F_me := F_me.gr (G36.trans G40)
      replace F_me := F_me.mv1 G49 (by (try dsimp only [V.In]); first | omega | grind)
      replace F_md := F_md.gr (G36.trans G40)
      replace F_md := F_md.mv1 G49 (by (try dsimp only [V.In]); first | omega | grind)
      replace Fk2 := Fk2.ma G49
      replace HG := HG.grow (G36.trans G40)
      replace HG := HG.n1 G49 (by first | (refine Or.inr ?_; omega) | (refine Or.inl ?_; first | assumption | (dsimp only; grind)) | grind)
      exact ⟨HG, (by omega), F_me, F_md, Fk2, ((fun j => (M8 j ∧ (j ≠ g_38 ∨ g43 = g_38 ∨ j = kl_38)) ∨ j = g43)), ((fun j => D9 j ∨ B44 j)), ((by intro j h; (try dsimp only [V.In] at h ⊢); grind)), ((by intro j h; (try dsimp only [V.In] at h ⊢); grind)), F51, rfl, rfl, trivial⟩
     ·
      try replace h5 := V.dec h5
      try simp only [V.mk] at h5
      have hys : ¬ (isV d.L mg.ix = true ∧ trmV d.L mg.ix = mg.lt) := by (intro hc; have q1 : isV (turnV d d.te 0 mg.fr).L mg.ix = true := hc.1; have q2 : trmV (turnV d d.te 0 mg.fr).L mg.ix = mg.lt := hc.2; first | exact h5 q2 | (rw [q1] at g5_1; cases g5_1) | grind)
      refine V.sr ?_
      refine V.ru 3 ?_
      replace Fk_17 := Fk_17.gr G36
      refine V.loadO T_ok Fk_17 rfl rfl rfl rfl rfl ?_
      replace FL_17 := FL_17.gr G36
      refine V.call (base_spec FL_17) rfl rfl rfl ?_
      rintro _ w53 ⟨rfl, G54⟩
      have z55 := V.Fr.size G54
      refine V.ru 5 ?_
      refine V.nt ?_
      refine V.sr ?_
      refine V.ru 2 ?_
      refine V.mkStruct T_ok zero113 rfl rfl rfl rfl rfl ?_
      replace F10 := F10.gr (G36.trans G54)
      refine V.call (keep_spec (kn := 1) (ix := (((turnV d d.te 0 mg.fr).L).base)) (tm := 0) (et := 0) F10 (Sl.nil _ _ V.None' _ _ (Nat.zero_le _)) (fun _ h => h.elim) (Sl.nil _ _ V.None' _ _ (Nat.zero_le _)) (fun _ h => h.elim)  (by intro j h; first | exact h.elim | (have a1 := hM j; (try dsimp only [V.In] at h); grind)) (by intro j h; first | exact h.elim | (have a1 := hM j; (try dsimp only [V.In] at h); grind)) (by first | assumption | omega | (dsimp only [turnV]; omega))) rfl rfl rfl ?_
      rintro _ w61 ⟨M56, D57, rfl, F58, h59, h60, G62⟩
      have z63 := V.FrE.size G62
      refine V.nt ?_
      obtain ⟨kl_64, g_64, B_64, SO_64, SC_64, ad_64, cd_64, ao_64, co_64, ac_64, cc_64, ch_64, hP_64, hc_64, Fk_64, FL_64, FQ_64⟩ := F58.ex
      obtain ⟨hid_64, hrg_64, hte_64, hco_64, hx0_64, hx1_64, hx2_64, hm0_64, hm1_64, hm2_64, hda_64⟩ := F58.ok
      try dsimp only [turnV] at hid_64 hrg_64 hte_64 hco_64 hx0_64 hx1_64 hx2_64 hm0_64 hm1_64 hm2_64 hda_64
      have nk_64 := hP_64.nk
      have nl_64 := hP_64.nl
      have ng_64 := hP_64.ng
      have kL_64 := hP_64.kL
      have lq_64 := hP_64.lq
      have bd_64 := hP_64.d
      obtain ⟨mk_64, ml_64, mg_64⟩ := hP_64.m
      have hA_64 := hP_64.a
      have lm_64 := hP_64.lm
      have ld_64 := hP_64.ld
      have hLo_64 := FL_64.ok
      have hLd_64 := FL_64.dl
      have hLg_64 := FL_64.gl
      have hLk_64 := FL_64.lt
      have hLb_64 := FL_64.bl
      have hkl_64 := Fk_64.lt
      have ha_64k1 : k1 ≠ kl_64 ∧ k1 ≠ g_64 := by constructor <;> (intro e_; grind)
      clear F58
      refine V.drawT 8 mixed (by kernel_rfl) ?_
      rintro w65 G66 s67
      have z68 := V.Fr.size G66
      refine V.qrun T_ok 3 rfl ?_
      replace Fk_64 := Fk_64.gr G66
      refine V.qloadO T_ok Fk_64 rfl rfl rfl rfl rfl ?_
      refine V.qrun T_ok 1 rfl ?_
      replace Fk2 := Fk2.gr G54
      replace Fk2 := Fk2.mvE G62 (by (try dsimp only [V.In]); first | omega | grind)
      replace Fk2 := Fk2.gr G66
      refine V.qloadO T_ok Fk2 rfl rfl rfl rfl rfl ?_
      refine V.qrun T_ok 1 rfl ?_
      refine V.qloadO T_ok Fk2 rfl rfl rfl rfl rfl ?_
      refine V.qnil ?_
      replace FL_64 := FL_64.gr G66
      refine V.call (reset_spec (b := mg.ix) (t := mg.lt) FL_64) rfl rfl rfl ?_
      rintro _ w74 ⟨g69, B70, rfl, F71, h72, h73, G75⟩
      have z76 := V.Fr.size G75
      refine V.nt ?_
      have hrs : rstOk mg.ix mg.lt := ⟨hix, hlt⟩
      rw [if_pos hrs] at F71
      have nk9_64 := F71.nk
      have ng9_64 := F71.ng
      have gl9_64 := F71.gl
      have bl9_64 := F71.bl
      replace Fk_64 := Fk_64.ma G75
      replace FQ_64 := FQ_64.gr G66
      replace FQ_64 := FQ_64.mv1 G75 (by (try dsimp only [V.In]); first | omega | grind)
      have F77 : Nd w74 k (fun j => (M56 j ∧ (j ≠ g_64 ∨ g69 = g_64 ∨ j = kl_64)) ∨ j = g69) (fun j => D57 j ∨ B70 j) ({ turnV d d.te 0 mg.fr with L := ⟨mg.ix, mg.lt, []⟩, nc := d.nc + 1 }) := ⟨⟨hid_64, hrg_64, hte_64, hco_64, hx0_64, hx1_64, hx2_64, hm0_64, hm1_64, hm2_64, hda_64⟩, _, _, _, _, _, _, _, _, _, _, _, _, (hP_64.setL (by omega) (by omega) gl9_64 (by intro j h; grind) bl9_64 ng9_64 nk9_64), hc_64, Fk_64, F71, (FQ_64.mono (fun j h => .inl h))⟩
      clear Fk_64 F71 FQ_64
      have hr78 : { turnV d d.te 0 mg.fr with L := ⟨mg.ix, mg.lt, []⟩, nc := d.nc + 1 } = { turnV d d.te 0 mg.fr with L := if isV d.L mg.ix = true ∧ trmV d.L mg.ix = mg.lt then cmpV d.L mg.ix else ⟨mg.ix, mg.lt, []⟩, nc := if isV d.L mg.ix = true ∧ trmV d.L mg.ix = mg.lt then d.nc else d.nc + 1 } := (by rw [if_neg hys, if_neg hys])
      rw [hr78] at F77
      clear hr78
      replace F_me := F_me.gr (G36.trans G54)
      replace F_me := F_me.mvE G62 (by intro j h hd; (try dsimp only [V.In] at h hd ⊢); first | omega | grind)
      replace F_me := F_me.gr G66
      replace F_me := F_me.mv1 G75 (by (try dsimp only [V.In]); first | omega | grind)
      replace F_md := F_md.gr (G36.trans G54)
      replace F_md := F_md.mvE G62 (by intro j h hd; (try dsimp only [V.In] at h hd ⊢); first | omega | grind)
      replace F_md := F_md.gr G66
      replace F_md := F_md.mv1 G75 (by (try dsimp only [V.In]); first | omega | grind)
      replace Fk2 := Fk2.ma G75
      replace HG := HG.grow (G36.trans G54)
      replace HG := HG.stepE G62 (by intro i h; (try dsimp only [V.In] at h ⊢); first | omega | grind)
      replace HG := HG.grow G66
      replace HG := HG.n1 G75 (by first | (refine Or.inr ?_; omega) | (refine Or.inl ?_; first | assumption | (dsimp only; grind)) | grind)
      exact ⟨HG, (by omega), F_me, F_md, Fk2, ((fun j => (M56 j ∧ (j ≠ g_64 ∨ g69 = g_64 ∨ j = kl_64)) ∨ j = g69)), ((fun j => D57 j ∨ B70 j)), ((by intro j h; (try dsimp only [V.In] at h ⊢); grind)), ((by intro j h; (try dsimp only [V.In] at h ⊢); grind)), F77, rfl, rfl, trivial⟩
    ·
     try replace g5_1 := V.dec g5_1
     try simp only [V.mk] at g5_1
     have hys : ¬ (isV d.L mg.ix = true ∧ trmV d.L mg.ix = mg.lt) := by (intro hc; have q1 : isV (turnV d d.te 0 mg.fr).L mg.ix = true := hc.1; have q2 : trmV (turnV d d.te 0 mg.fr).L mg.ix = mg.lt := hc.2; first | (rw [q1] at g5_1; cases g5_1) | grind)
     refine V.ru 5 ?_
     refine V.nt ?_
     refine V.condN rfl rfl ?_
     refine V.sr ?_
     refine V.ru 3 ?_
     replace Fk_17 := Fk_17.gr G36
     refine V.loadO T_ok Fk_17 rfl rfl rfl rfl rfl ?_
     replace FL_17 := FL_17.gr G36
     refine V.call (base_spec FL_17) rfl rfl rfl ?_
     rintro _ w79 ⟨rfl, G80⟩
     have z81 := V.Fr.size G80
     refine V.ru 5 ?_
     refine V.nt ?_
     refine V.sr ?_
     refine V.ru 2 ?_
     refine V.mkStruct T_ok zero113 rfl rfl rfl rfl rfl ?_
     replace F10 := F10.gr (G36.trans G80)
     refine V.call (keep_spec (kn := 1) (ix := (((turnV d d.te 0 mg.fr).L).base)) (tm := 0) (et := 0) F10 (Sl.nil _ _ V.None' _ _ (Nat.zero_le _)) (fun _ h => h.elim) (Sl.nil _ _ V.None' _ _ (Nat.zero_le _)) (fun _ h => h.elim)  (by intro j h; first | exact h.elim | (have a1 := hM j; (try dsimp only [V.In] at h); grind)) (by intro j h; first | exact h.elim | (have a1 := hM j; (try dsimp only [V.In] at h); grind)) (by first | assumption | omega | (dsimp only [turnV]; omega))) rfl rfl rfl ?_
     rintro _ w87 ⟨M82, D83, rfl, F84, h85, h86, G88⟩
     have z89 := V.FrE.size G88
     refine V.nt ?_
     obtain ⟨kl_90, g_90, B_90, SO_90, SC_90, ad_90, cd_90, ao_90, co_90, ac_90, cc_90, ch_90, hP_90, hc_90, Fk_90, FL_90, FQ_90⟩ := F84.ex
     obtain ⟨hid_90, hrg_90, hte_90, hco_90, hx0_90, hx1_90, hx2_90, hm0_90, hm1_90, hm2_90, hda_90⟩ := F84.ok
     try dsimp only [turnV] at hid_90 hrg_90 hte_90 hco_90 hx0_90 hx1_90 hx2_90 hm0_90 hm1_90 hm2_90 hda_90
     have nk_90 := hP_90.nk
     have nl_90 := hP_90.nl
     have ng_90 := hP_90.ng
     have kL_90 := hP_90.kL
     have lq_90 := hP_90.lq
     have bd_90 := hP_90.d
     obtain ⟨mk_90, ml_90, mg_90⟩ := hP_90.m
     have hA_90 := hP_90.a
     have lm_90 := hP_90.lm
     have ld_90 := hP_90.ld
     have hLo_90 := FL_90.ok
     have hLd_90 := FL_90.dl
     have hLg_90 := FL_90.gl
     have hLk_90 := FL_90.lt
     have hLb_90 := FL_90.bl
     have hkl_90 := Fk_90.lt
     have ha_90k1 : k1 ≠ kl_90 ∧ k1 ≠ g_90 := by constructor <;> (intro e_; grind)
     clear F84
     refine V.drawT 8 mixed (by kernel_rfl) ?_
     rintro w91 G92 s93
     have z94 := V.Fr.size G92
     refine V.qrun T_ok 3 rfl ?_
     replace Fk_90 := Fk_90.gr G92
     refine V.qloadO T_ok Fk_90 rfl rfl rfl rfl rfl ?_
     refine V.qrun T_ok 1 rfl ?_
     replace Fk2 := Fk2.gr (G36.trans G80)
     replace Fk2 := Fk2.mvE G88 (by (try dsimp only [V.In]); first | omega | grind)
     replace Fk2 := Fk2.gr G92
     refine V.qloadO T_ok Fk2 rfl rfl rfl rfl rfl ?_
     refine V.qrun T_ok 1 rfl ?_
     refine V.qloadO T_ok Fk2 rfl rfl rfl rfl rfl ?_
     refine V.qnil ?_
     replace FL_90 := FL_90.gr G92
     refine V.call (reset_spec (b := mg.ix) (t := mg.lt) FL_90) rfl rfl rfl ?_
     rintro _ w100 ⟨g95, B96, rfl, F97, h98, h99, G101⟩
     have z102 := V.Fr.size G101
     refine V.nt ?_
     have hrs : rstOk mg.ix mg.lt := ⟨hix, hlt⟩
     rw [if_pos hrs] at F97
     have nk9_90 := F97.nk
     have ng9_90 := F97.ng
     have gl9_90 := F97.gl
     have bl9_90 := F97.bl
     replace Fk_90 := Fk_90.ma G101
     replace FQ_90 := FQ_90.gr G92
     replace FQ_90 := FQ_90.mv1 G101 (by (try dsimp only [V.In]); first | omega | grind)
     have F103 : Nd w100 k (fun j => (M82 j ∧ (j ≠ g_90 ∨ g95 = g_90 ∨ j = kl_90)) ∨ j = g95) (fun j => D83 j ∨ B96 j) ({ turnV d d.te 0 mg.fr with L := ⟨mg.ix, mg.lt, []⟩, nc := d.nc + 1 }) := ⟨⟨hid_90, hrg_90, hte_90, hco_90, hx0_90, hx1_90, hx2_90, hm0_90, hm1_90, hm2_90, hda_90⟩, _, _, _, _, _, _, _, _, _, _, _, _, (hP_90.setL (by omega) (by omega) gl9_90 (by intro j h; grind) bl9_90 ng9_90 nk9_90), hc_90, Fk_90, F97, (FQ_90.mono (fun j h => .inl h))⟩
     clear Fk_90 F97 FQ_90
     have hr104 : { turnV d d.te 0 mg.fr with L := ⟨mg.ix, mg.lt, []⟩, nc := d.nc + 1 } = { turnV d d.te 0 mg.fr with L := if isV d.L mg.ix = true ∧ trmV d.L mg.ix = mg.lt then cmpV d.L mg.ix else ⟨mg.ix, mg.lt, []⟩, nc := if isV d.L mg.ix = true ∧ trmV d.L mg.ix = mg.lt then d.nc else d.nc + 1 } := (by rw [if_neg hys, if_neg hys])
     rw [hr104] at F103
     clear hr104
     replace F_me := F_me.gr (G36.trans G80)
     replace F_me := F_me.mvE G88 (by intro j h hd; (try dsimp only [V.In] at h hd ⊢); first | omega | grind)
     replace F_me := F_me.gr G92
     replace F_me := F_me.mv1 G101 (by (try dsimp only [V.In]); first | omega | grind)
     replace F_md := F_md.gr (G36.trans G80)
     replace F_md := F_md.mvE G88 (by intro j h hd; (try dsimp only [V.In] at h hd ⊢); first | omega | grind)
     replace F_md := F_md.gr G92
     replace F_md := F_md.mv1 G101 (by (try dsimp only [V.In]); first | omega | grind)
     replace Fk2 := Fk2.ma G101
     replace HG := HG.grow (G36.trans G80)
     replace HG := HG.stepE G88 (by intro i h; (try dsimp only [V.In] at h ⊢); first | omega | grind)
     replace HG := HG.grow G92
     replace HG := HG.n1 G101 (by first | (refine Or.inr ?_; omega) | (refine Or.inl ?_; first | assumption | (dsimp only; grind)) | grind)
     exact ⟨HG, (by omega), F_me, F_md, Fk2, ((fun j => (M82 j ∧ (j ≠ g_90 ∨ g95 = g_90 ∨ j = kl_90)) ∨ j = g95)), ((fun j => D83 j ∨ B96 j)), ((by intro j h; (try dsimp only [V.In] at h ⊢); grind)), ((by intro j h; (try dsimp only [V.In] at h ⊢); grind)), F103, rfl, rfl, trivial⟩
   clear HG F_me F_md Fk2
   try clear FL_17
   try clear F10
   try clear Fk_17
   try clear FQ_17
   rintro e v34 ⟨HG, z105, F_me, F_md, Fk2, MJ, DJ, hMJ, hDJ, FJ, hjn33_0, hjn33_3, -⟩
   refine V.knownC (t := 0) hjn33_0 ?_
   refine V.knownC (t := 3) hjn33_3 ?_
   refine V.seq ?_
   obtain ⟨kl_106, g_106, B_106, SO_106, SC_106, ad_106, cd_106, ao_106, co_106, ac_106, cc_106, ch_106, hP_106, hc_106, Fk_106, FL_106, FQ_106⟩ := FJ.ex
   obtain ⟨hid_106, hrg_106, hte_106, hco_106, hx0_106, hx1_106, hx2_106, hm0_106, hm1_106, hm2_106, hda_106⟩ := FJ.ok
   try dsimp only [turnV] at hid_106 hrg_106 hte_106 hco_106 hx0_106 hx1_106 hx2_106 hm0_106 hm1_106 hm2_106 hda_106
   have nk_106 := hP_106.nk
   have nl_106 := hP_106.nl
   have ng_106 := hP_106.ng
   have kL_106 := hP_106.kL
   have lq_106 := hP_106.lq
   have bd_106 := hP_106.d
   obtain ⟨mk_106, ml_106, mg_106⟩ := hP_106.m
   have hA_106 := hP_106.a
   have lm_106 := hP_106.lm
   have ld_106 := hP_106.ld
   have hLo_106 := FL_106.ok
   have hLd_106 := FL_106.dl
   have hLg_106 := FL_106.gl
   have hLk_106 := FL_106.lt
   have hLb_106 := FL_106.bl
   have hkl_106 := Fk_106.lt
   have ha_106k1 : k1 ≠ kl_106 ∧ k1 ≠ g_106 := by constructor <;> (intro e_; grind)
   clear FJ
   refine V.drawM (fun w_ => V.Fr [k] v34 w_) (fun i => Nat.beq i 4 || Nat.beq i 9 || Nat.beq i 12) (fun _ g_ => g_.mono (by simp)) mixed (by kernel_rfl) (by kernel_rfl) ?_
   refine V.mrun T_ok 3 rfl rfl ?_
   refine V.mloadO T_ok (fun w' g_ => V.Cells.mv1 Fk2 g_ (by omega)) rfl rfl rfl rfl rfl rfl ?_
   refine V.mcall (R := fun w1_ v_ w2_ => ∃ (a_ : Option Addr) (c_ : Nat), v_ = .slice a_ mg.da.length c_ ∧ V.Row V.Cod.byte 5 w2_ V.None' w1_.heap.size w2_.heap.size a_ c_ mg.da ∧ Gr w1_ w2_) rfl (fun w1_ g_ h_ => clone_spec (F_md.gr h_) (by omega)) (by rintro wa va wb ca h_ ⟨_, _, _, _, G_⟩; exact (V.Fr.dup ca (G_.mono (by simp)))) rfl rfl rfl ?_
   rintro _ _ _ _ _ ⟨a107, c108, rfl, -, -⟩
   refine V.mrun T_ok 1 rfl rfl ?_
   refine V.mloadO T_ok (fun w' g_ => V.Cells.mv1 Fk2 g_ (by omega)) rfl rfl rfl rfl rfl rfl ?_
   refine V.mrun T_ok 2 rfl rfl ?_
   refine V.mstoreC (fun _ _ h_ => by obtain ⟨_, _, h1_, a_, c_, he_, F_, G_⟩ := h_; exact (Fk_106.gr h1_).gr G_) (fun _ _ a _ b hc => V.Fr.dup a b) rfl rfl rfl rfl sz28 rfl rfl rfl rfl rfl ?_
   refine V.mrun T_ok 2 rfl rfl ?_
   refine V.mstoreC (fun _ _ h_ => by obtain ⟨_, _, _, _, h2_⟩ := h_; exact h2_) (fun _ _ a _ b hc => V.Fr.dup a b) rfl rfl rfl rfl sz3 rfl rfl rfl rfl rfl ?_
   refine V.mnil ?_
   rintro w109 - ⟨w115, ⟨w113, ⟨w111, -, g0_, _, _, he_, FG_, G112⟩, G114, -, -⟩, G116, -, Fk110⟩
   cases he_
   have z117 := V.Fr.size g0_
   have z118 := V.Fr.size G112
   clear Fk_106
   have z119 := V.Fr.size G114
   have z120 := V.Fr.size G116
   have Fk_106 := Fk110; clear Fk110
   try simp only [V.spliceL, V.cellsL] at Fk_106
   refine V.tN ?_
   refine V.seq ?_
   replace FL_106 := FL_106.gr (g0_.trans G112)
   replace FL_106 := FL_106.mv1 G114 (by (try dsimp only [V.In]); first | omega | grind)
   replace FL_106 := FL_106.mv1 G116 (by (try dsimp only [V.In]); first | omega | grind)
   replace FQ_106 := FQ_106.gr (g0_.trans G112)
   replace FQ_106 := FQ_106.mv1 G114 (by (try dsimp only [V.In]); first | omega | grind)
   replace FQ_106 := FQ_106.mv1 G116 (by (try dsimp only [V.In]); first | omega | grind)
   replace FG_ := FG_.ma G114
   replace FG_ := FG_.ma G116
   have F121 : Nd w109 k MJ (fun j => DJ j ∨ (V.In w111.heap.size w113.heap.size) j) ({ turnV d d.te 0 mg.fr with L := if isV d.L mg.ix = true ∧ trmV d.L mg.ix = mg.lt then cmpV d.L mg.ix else ⟨mg.ix, mg.lt, []⟩, nc := if isV d.L mg.ix = true ∧ trmV d.L mg.ix = mg.lt then d.nc else d.nc + 1, da := mg.da, co := mg.ix }) := ⟨⟨hid_106, hrg_106, hte_106, ⟨by dsimp only; omega, by dsimp only; omega⟩, hx0_106, hx1_106, hx2_106, hm0_106, hm1_106, hm2_106, hdl⟩, _, _, _, _, _, _, _, _, _, _, _, _, ((hP_106.up (by omega)).setD (Nat.le_refl _) (by intro j h; (try dsimp only [V.In] at h); have a1 := lm_106 j; have a2 := ld_106 j; have a3 := hP_106.dj j; grind) (fun j h => .inl h)), hc_106, Fk_106, FL_106, ⟨FQ_106.o.mono2 (fun j h => .inl (.inl h)) (fun j h => h), FQ_106.c.mono2 (fun j h => .inl (.inl h)) (fun j h => h), (FG_.sl.mono (fun j h => .inr h))⟩⟩
   clear Fk_106 FL_106 FQ_106
   have hnj : (if isV d.L mg.ix = true ∧ trmV d.L mg.ix = mg.lt then d.nc else d.nc + 1) + 1 ≤ 1000000 := by split <;> omega
   refine V.drawGT 9 (V.sel [(7, (fun v wz => ∃ (ra1 : Option Addr) (rc1 : Nat), v = .slice ra1 mg.da.length rc1 ∧ V.Row V.Cod.byte 5 wz V.None' w109.heap.size wz.heap.size ra1 rc1 mg.da))]) mixed (by kernel_rfl) (V.mono_cons (by rintro v wz wz' g ⟨ra1, rc1, rfl, rF1⟩; exact ⟨ra1, rc1, rfl, (by first | exact (rF1.gr g).mono (V.In.sub (Nat.le_refl _) g.size) | exact rF1.gr g | exact (rF1.gr g).mono (fun _ h => h) (Nat.le_refl _) g.size | exact (rF1.gr g).mono (fun k h => ⟨h.1, Nat.lt_of_lt_of_le h.2 g.size⟩))⟩) V.mono_nil) ?_
   refine V.grun T_ok 2 rfl (V.sel_none rfl) ?_
   replace Fk2 := Fk2.gr (g0_.trans G112)
   replace Fk2 := Fk2.ma G114
   replace Fk2 := Fk2.ma G116
   refine V.gloadO T_ok (fun w' h => Fk2.gr h.1) rfl rfl rfl rfl rfl rfl ?_
   refine V.grun T_ok 1 rfl (V.sel_none rfl) ?_
   refine V.gloadO T_ok (fun w' h => Fk2.gr h.1) rfl rfl rfl rfl rfl rfl ?_
   refine V.grun T_ok 1 rfl (V.sel_none rfl) ?_
   refine V.gloadO T_ok (fun w' h => Fk2.gr h.1) rfl rfl rfl rfl rfl rfl ?_
   replace F_md := F_md.gr (g0_.trans G112)
   replace F_md := F_md.mv1 G114 (by (try dsimp only [V.In]); first | omega | grind)
   replace F_md := F_md.mv1 G116 (by (try dsimp only [V.In]); first | omega | grind)
   refine V.gcall (fun w' h => (clone_spec (F_md.gr h.1) V.lenA).mono (by rintro v w'' ⟨ra1, rc1, rfl, rF1, G⟩; exact ⟨⟨ra1, rc1, rfl, (by first | exact rF1.mono (V.In.mono_l h.1.size) | exact rF1 | exact rF1.mono (fun _ h => h) h.1.size (Nat.le_refl _))⟩, G⟩)) rfl rfl rfl rfl ?_
   rintro _ w125 - - ⟨a122, c123, rfl, -⟩
   refine V.gmkStruct T_ok zero113 rfl rfl rfl rfl rfl rfl ?_
   refine V.gnil ?_
   rintro w126 G127 hH128
   have z129 := V.Fr.size G127
   have F124 : V.Row V.Cod.byte 5 w126 V.None' w109.heap.size w126.heap.size a122 c123 mg.da := by
     obtain ⟨_, _, he, F0⟩ := (V.Hist.here (hH128 7))
     cases he
     exact F0
   clear hH128
   replace F121 := F121.gr G127
   refine V.call (keep_spec (kn := 3) (ix := mg.ix) (tm := mg.lt) (et := 0) F121 (Sl.nil _ _ V.None' _ _ (Nat.zero_le _)) (fun _ h => h.elim) F124.sl (fun k hk => by have := hk.2; omega)  (by intro j h; first | exact h.elim | (have a1 := hM j; (try dsimp only [V.In] at h); grind)) (by intro j h; first | exact h.elim | (have a1 := hM j; (try dsimp only [V.In] at h); grind)) (by first | assumption | omega | (dsimp only [turnV]; omega))) rfl rfl rfl ?_
   rintro _ w135 ⟨M130, D131, rfl, F132, h133, h134, G136⟩
   have z137 := V.FrE.size G136
   refine V.nt ?_
   refine V.region ?_
   refine V.ru 2 ?_
   replace Fk2 := Fk2.gr G127
   replace Fk2 := Fk2.mvE G136 (by (try dsimp only [V.In]); first | omega | grind)
   refine V.loadO T_ok Fk2 rfl rfl rfl rfl rfl ?_
   refine V.ru 1 ?_
   refine V.loadO T_ok Fk2 rfl rfl rfl rfl rfl ?_
   refine V.mkStruct T_ok zero57 rfl rfl rfl rfl rfl ?_
   refine V.call (tell_spec (to := mg.fr) (m := (⟨4, 0, 0, 0, 0, mg.ix, 0, 0, true, [], []⟩ : RMsg)) F132 (Sl.nil _ _ V.None' _ _ (Nat.zero_le _)) (fun _ h => h.elim) (Sl.nil _ _ V.None' _ _ (Nat.zero_le _)) (fun _ h => h.elim) (by intro j h; first | exact h.elim | (have a1 := hM j; (try dsimp only [V.In] at h); grind)) (by intro j h; first | exact h.elim | (have a1 := hM j; (try dsimp only [V.In] at h); grind)) (by first | assumption | omega | (dsimp only [turnV]; omega))) rfl rfl rfl ?_
   rintro _ w143 ⟨M138, D139, rfl, F140, h141, h142, G144⟩
   have z145 := V.FrE.size G144
   refine V.nil ?_
   rw [show snpV d mg = tellV (keepV ({ turnV d d.te 0 mg.fr with L := if isV d.L mg.ix = true ∧ trmV d.L mg.ix = mg.lt then cmpV d.L mg.ix else ⟨mg.ix, mg.lt, []⟩, nc := if isV d.L mg.ix = true ∧ trmV d.L mg.ix = mg.lt then d.nc else d.nc + 1, da := mg.da, co := mg.ix })) mg.fr (⟨4, 0, 0, 0, 0, mg.ix, 0, 0, true, [], []⟩ : RMsg) from by (unfold snpV; rw [if_neg ho, if_neg h2b]; unfold keepV; dsimp only; congr 2; split <;> rfl)]
   refine V.doneN rfl ?_
   replace HG := HG.grow (g0_.trans G112)
   replace HG := HG.n1 G114 (by first | (refine Or.inr ?_; omega) | (refine Or.inl ?_; first | assumption | (dsimp only; grind)) | grind)
   replace HG := HG.n1 G116 (by first | (refine Or.inr ?_; omega) | (refine Or.inl ?_; first | assumption | (dsimp only; grind)) | grind)
   replace HG := HG.grow G127
   replace HG := HG.stepE G136 (by intro i h; (try dsimp only [V.In] at h ⊢); first | omega | grind)
   replace HG := HG.stepE G144 (by intro i h; (try dsimp only [V.In] at h ⊢); first | omega | grind)
   exact ⟨_, _, (by first | rfl | simp only [List.length_set]), F140, (by intro j h; (try dsimp only [V.In] at *); grind), (by intro j h; (try dsimp only [V.In] at *); grind), HG⟩

end Go.Proofs.Ytphohfpbdkgnaaa
