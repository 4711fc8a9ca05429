/- Proved here: walks: what functions of this seat's program return and what they leave of memory, each as a contract. Conditions: stated at each theorem. -/
import Derived.Test.YtphohfpbdkgnaaaMraft6
namespace Go.Proofs.Ytphohfpbdkgnaaa
set_option linter.unusedVariables false
set_option linter.unusedSimpArgs false
open Go
open V (Bytes Meets Env Sl Own Gr Fr Cells S)
theorem firstNo_le (d : LogV) (prev : Int) (es : List (Int × List UInt8)) : firstNo d prev es ≤ es.length := by
  unfold firstNo; exact Nat.le_trans List.findIdx_le_length (by simp)
theorem firstNo_mat {d : LogV} {prev : Int} {es : List (Int × List UInt8)} {j : Nat} (h : j < firstNo d prev es) : mat d prev es j = true := by
  have hl := firstNo_le d prev es
  unfold firstNo at h
  have := List.not_of_lt_findIdx h
  simpa using this
theorem layV_l {d : LogV} {prev : Int} {es : List (Int × List UInt8)} : (layV d prev es).base = d.base ∧ (layV d prev es).term = d.term := by unfold layV; split <;> exact ⟨rfl, rfl⟩
theorem lay_len {d : LogV} {prev : Int} {es : List (Int × List UInt8)} (h : firstNo d prev es < es.length) (hp : d.base ≤ prev ∧ prev ≤ d.base + d.l.length) : (layV d prev es).l.length = (prev - d.base).toNat + es.length ∧ prev + (firstNo d prev es : Nat) ≤ d.base + d.l.length := by
  have hin := mat_in (d := d) (prev := prev) (e := es) (k := firstNo d prev es) (fun j hj => firstNo_mat hj) hp.1 hp.2
  unfold layV; rw [if_pos h]
  simp only [List.length_append, List.length_take, List.length_drop]
  omega
theorem lay_at? {d : LogV} {prev : Int} {es : List (Int × List UInt8)} (h : firstNo d prev es < es.length) (hp : d.base ≤ prev ∧ prev ≤ d.base + d.l.length) (n : Nat) :
    (layV d prev es).l[n]? = if n < (prev + (firstNo d prev es : Nat) - d.base).toNat then d.l[n]? else es[n - (prev - d.base).toNat]? := by
  have hin := (lay_len h hp).2
  unfold layV; rw [if_pos h]
  rw [List.getElem?_append]
  have hl : (d.l.take (prev + (firstNo d prev es : Nat) - d.base).toNat).length = (prev + (firstNo d prev es : Nat) - d.base).toNat := by rw [List.length_take]; omega
  rw [hl]
  split
  · rw [List.getElem?_take]; rw [if_pos (by assumption)]
  · rw [List.getElem?_drop]; congr 1; omega
theorem lay_lenle {d : LogV} {prev : Int} {es : List (Int × List UInt8)} : (layV d prev es).l.length ≤ d.l.length + es.length := by
  unfold layV; split
  · simp only [List.length_append, List.length_take, List.length_drop]; omega
  · omega
theorem lay_cnt {d : LogV} {prev : Int} {es : List (Int × List UInt8)} (hp : d.base ≤ prev ∧ prev ≤ d.base + d.l.length) (h : 0 < layI d prev es) : (lastI (layV d prev es) - layI d prev es + 1).toNat ≤ es.length := by
  by_cases hf : firstNo d prev es < es.length
  · obtain ⟨h1, h2⟩ := lay_len hf hp
    have h3 : layI d prev es = prev + 1 + (firstNo d prev es : Nat) := if_pos hf
    have h4 := (layV_l (d := d) (prev := prev) (es := es)).1
    unfold lastI; rw [h1, h3, h4]; omega
  · have h3 : layI d prev es = 0 := if_neg hf
    omega
theorem spl_cnt {d : LogV} {prev t : Int} {es : List (Int × List UInt8)} (h : 0 < splI d prev t es) : (lastI (splV d prev t es) - splI d prev t es + 1).toNat ≤ es.length := by
  unfold splI at h
  by_cases h1 : prev < d.base
  · rw [if_pos h1] at h
    by_cases h2 : (es.length : Int) ≤ aheadN d prev
    · rw [if_pos h2] at h; omega
    · rw [if_neg h2] at h
      have e1 : splI d prev t es = layI d d.base (es.drop (aheadN d prev).toNat) := by unfold splI; rw [if_pos h1, if_neg h2]
      have e2 : splV d prev t es = layV d d.base (es.drop (aheadN d prev).toNat) := by unfold splV; rw [if_pos h1, if_neg h2]
      have h3 := lay_cnt (d := d) (prev := d.base) (es := es.drop (aheadN d prev).toNat) ⟨by omega, by omega⟩ h
      rw [e1, e2]
      rw [List.length_drop] at h3; omega
  · rw [if_neg h1] at h
    by_cases h2 : splOk d prev t = true
    · rw [if_pos h2] at h
      have e1 : splI d prev t es = layI d prev es := by unfold splI; rw [if_neg h1, if_pos h2]
      have e2 : splV d prev t es = layV d prev es := by unfold splV; rw [if_neg h1, if_pos h2]
      rw [e1, e2]
      have h3 : isV d prev = true := by (unfold splOk at h2; simp at h2; rcases h2 with h2 | h2; omega; exact h2.1)
      exact lay_cnt (isI.1 h3) h
    · rw [if_neg h2] at h; omega
theorem spl_no {d : LogV} {prev t : Int} {es : List (Int × List UInt8)} (h : ¬ splOk d prev t = true) : splV d prev t es = d := by
  have h1 : ¬ prev < d.base := fun e => h (by unfold splOk; simp [e])
  unfold splV; rw [if_neg h1, if_neg h]
theorem spl_last {d : LogV} {prev t : Int} {es : List (Int × List UInt8)} : splI d prev t es ≤ lastI (splV d prev t es) + 1 ∨ splI d prev t es ≤ 0 := by
  rcases Int.lt_or_le 0 (splI d prev t es) with h | h
  · left
    unfold splI splV at *
    split
    · split
      · omega
      · rename_i h1 h2
        rw [if_pos h1, if_neg h2] at h
        by_cases hf : firstNo d d.base (es.drop (aheadN d prev).toNat) < (es.drop (aheadN d prev).toNat).length
        · obtain ⟨h3, h4⟩ := lay_len hf ⟨Int.le_refl _, by omega⟩
          have h5 : layI d d.base (es.drop (aheadN d prev).toNat) = d.base + 1 + (firstNo d d.base (es.drop (aheadN d prev).toNat) : Nat) := if_pos hf
          have h6 := (layV_l (d := d) (prev := d.base) (es := es.drop (aheadN d prev).toNat)).1
          unfold lastI; rw [h3, h5, h6]; omega
        · have h5 : layI d d.base (es.drop (aheadN d prev).toNat) = 0 := if_neg hf
          omega
    · split
      · rename_i h1 h2
        rw [if_neg h1, if_pos h2] at h
        have h8 : isV d prev = true := by (unfold splOk at h2; simp at h2; rcases h2 with h2 | h2; omega; exact h2.1)
        by_cases hf : firstNo d prev es < es.length
        · obtain ⟨h3, h4⟩ := lay_len hf (isI.1 h8)
          have h5 : layI d prev es = prev + 1 + (firstNo d prev es : Nat) := if_pos hf
          have h6 := (layV_l (d := d) (prev := prev) (es := es)).1
          have h9 := isI.1 h8
          unfold lastI; rw [h3, h5, h6]; omega
        · have h5 : layI d prev es = 0 := if_neg hf
          omega
      · rename_i h1 h2
        rw [if_neg h1, if_neg h2] at h; omega
  · exact .inr h

set_option maxHeartbeats 4000000 in
set_option maxRecDepth 10000 in
theorem apn_spec {w : World} {k : Nat} {M D : Nat → Prop} {d : NodeV} (FX : Nd w k M D d) {mg : RMsg} {q0 : Int} {q1 : Int} {q2 : Int} {q3 : Int} {q4 : Int} {q5 : Int} {q6 : Int} {q7 : Int} {q8 : ByteArray} {q9 : Int} {q10 : Int} {q11 : Int} {q12 : ByteArray} {q13 : ByteArray} {q14 : ByteArray} {q15 : Bool} {q16 : Int} {q17 : Int} {q18 : Int} {q19 : Int} {q20 : Bool} {q21 : Bool} {q22a : Option Addr} {q22n q22c : Nat} {q23 : Int} {q24 : Int} {q25 : Int} {q26 : Int} {q27a : Option Addr} {q27n q27c : Nat} {q28 : Bool} {q29 : Int} {q30 : Int} {q31 : ByteArray} {q32 : Int} {q33 : Int} {q34 : Int} {q35 : Int} {q36 : Int} {q37 : Int} {q38 : Int} {q39 : Int} {q40 : Int} {q41a : Option Addr} {q41n q41c : Nat} {D_me : Nat → Prop} {c_me : Nat} {a_me : Option Addr} (F_me : Sl V.Cod.ent w D_me a_me c_me mg.es) (hD_me : ∀ k, D_me k → k < w.heap.size) {D_md : Nat → Prop} {c_md : Nat} {a_md : Option Addr} (F_md : Sl V.Cod.byte w D_md a_md c_md mg.da) (hD_md : ∀ k, D_md k → k < w.heap.size)  (hMe : ∀ j, D_me j → ¬ M j) (hMm : ∀ j, D_md j → ¬ M j) (hix : 0 ≤ mg.ix ∧ mg.ix ≤ 1099511627776) (hlt : 0 ≤ mg.lt ∧ mg.lt ≤ 1099511627776) (hcm : 0 ≤ mg.co ∧ mg.co ≤ 1099511627776) (hs : d.out.length + 1 ≤ 1000000) (hn : d.nc + mg.es.length + 2 ≤ 1000000) (hL : d.L.l.length + mg.es.length ≤ 1000000) (hb : d.L.base + d.L.l.length + mg.es.length ≤ 2199023255552) (hde : ∀ x ∈ mg.es, x.2.length ≤ 1000000) :
    Meets Try.prog 54 [.pointer (some ⟨k, 0, none⟩), .agg #[.int .i64 mg.kd, .int .i64 mg.fr, .int .i64 mg.to, .int .i64 mg.rg, .int .i64 mg.te, .int .i64 mg.ix, .int .i64 mg.lt, .int .i64 mg.co, .bool mg.ok, .slice a_me mg.es.length c_me, .slice a_md mg.da.length c_md, .int .i64 q0, .int .i64 q1, .int .i64 q2, .int .i64 q3, .int .i64 q4, .int .i64 q5, .int .i64 q6, .int .i64 q7, .string q8, .int .i64 q9, .int .i64 q10, .int .i64 q11, .string q12, .string q13, .string q14, .bool q15, .int .i64 q16, .int .i64 q17, .int .i64 q18, .int .i64 q19, .bool q20, .bool q21, .slice q22a q22n q22c, .int .i64 q23, .int .i64 q24, .int .i64 q25, .int .i64 q26, .slice q27a q27n q27c, .bool q28, .int .i64 q29, .int .i64 q30, .string q31, .int .i64 q32, .int .i64 q33, .int .i64 q34, .int .i64 q35, .int .i64 q36, .int .i64 q37, .int .i64 q38, .int .i64 q39, .int .i64 q40, .slice q41a q41n q41c]] w fun r w' => ∃ (rM33 : Nat → Prop) (rD33 : Nat → Prop), r = .tuple #[] ∧ Nd w' k rM33 rD33 (apnV d mg) ∧ (∀ j, rM33 j → M j ∨ w.heap.size ≤ j) ∧ (∀ j, rD33 j → D j ∨ M j ∨ w.heap.size ≤ j) ∧ V.FrE M w w' := by
 have hM := FX.lm
 have hk0 := FX.lm _ FX.mk'
 have hD := FX.ld
 have hMD := FX.dj
 have hMk := FX.mk'
 have HG := V.FrE.refl M w
 refine V.enter (n := 93) Try.func54 rfl rfl (by decide) rfl ?_
 refine V.sr ?_
 refine V.box rfl rfl rfl rfl ?_
 rintro k1 w3 s5 s6 G4 Fk2
 have z7 := V.Fr.size G4
 try simp only [V.cellsL, V.spliceL] at Fk2
 refine V.nt ?_
 refine V.seq ?_
 refine V.sr ?_
 refine V.ru 1 ?_
 refine V.loadO T_ok Fk2 rfl rfl rfl rfl rfl ?_
 replace FX := FX.gr G4
 replace F_me := F_me.gr G4
 replace F_md := F_md.gr G4
 refine V.call (old_spec (mg := mg) FX F_me (by intro k h; (try dsimp only [V.In] at h ⊢); first | omega | grind) F_md (by intro k h; (try dsimp only [V.In] at h ⊢); first | omega | grind) (by intro j h; first | exact h.elim | (have a1 := hM j; (try dsimp only [V.In] at h); grind)) (by intro j h; first | exact h.elim | (have a1 := hM j; (try dsimp only [V.In] at h); grind)) (by first | assumption | omega)) rfl rfl rfl ?_
 rintro _ w13 ⟨M8, D9, rfl, F10, h11, h12, G14⟩
 have z15 := V.FrE.size G14
 refine V.nt ?_
 refine V.condT rfl (fun h1 => ?_) (fun h1 => ?_)
 ·
  try replace h1 := V.dec h1
  try simp only [V.mk] at h1
  have ho : mg.te < d.te := by (have h1b := h1; unfold oldB at h1b; simpa using h1b)
  refine V.ret ?_
  refine V.tR ?_
  rw [show apnV d mg = oldV d mg from if_pos ho]
  refine V.done rfl ?_
  replace HG := HG.grow G4
  replace HG := HG.stepE G14 (by intro i h; (try dsimp only [V.In] at h ⊢); first | omega | grind)
  exact ⟨_, _, (by first | rfl | simp only [List.length_set]), F10, (by intro j h; (try dsimp only [V.In] at *); grind), (by intro j h; (try dsimp only [V.In] at *); grind), HG⟩
 ·
  try replace h1 := V.dec h1
  try simp only [V.mk] at h1
  have ho : ¬ mg.te < d.te := by (have h1b := h1; unfold oldB at h1b; simpa using h1b)
  refine V.skip ?_
  refine V.tN ?_
  refine V.seq ?_
  have hr16 : oldV d mg = turnV d d.te 0 mg.fr := if_pos (by omega)
  rw [hr16] at F10
  clear hr16
  obtain ⟨kl_17, g_17, B_17, SO_17, SC_17, ad_17, cd_17, ao_17, co_17, ac_17, cc_17, ch_17, hP_17, hc_17, Fk_17, FL_17, FQ_17⟩ := F10.ex
  obtain ⟨hid_17, hrg_17, hte_17, hco_17, hx0_17, hx1_17, hx2_17, hm0_17, hm1_17, hm2_17, hda_17⟩ := F10.ok
  try dsimp only [turnV] at hid_17 hrg_17 hte_17 hco_17 hx0_17 hx1_17 hx2_17 hm0_17 hm1_17 hm2_17 hda_17
  have nk_17 := hP_17.nk
  have nl_17 := hP_17.nl
  have ng_17 := hP_17.ng
  have kL_17 := hP_17.kL
  have lq_17 := hP_17.lq
  have bd_17 := hP_17.d
  obtain ⟨mk_17, ml_17, mg_17⟩ := hP_17.m
  have hA_17 := hP_17.a
  have lm_17 := hP_17.lm
  have ld_17 := hP_17.ld
  have hLo_17 := FL_17.ok
  have hLd_17 := FL_17.dl
  have hLg_17 := FL_17.gl
  have hLk_17 := FL_17.lt
  have hLb_17 := FL_17.bl
  have hkl_17 := Fk_17.lt
  have ha_17k1 : k1 ≠ kl_17 ∧ k1 ≠ g_17 := by constructor <;> (intro e_; grind)
  clear F10
  have hL2 : (turnV d d.te 0 mg.fr).L.l.length + mg.es.length ≤ 1000000 := hL
  have hb2 : (turnV d d.te 0 mg.fr).L.base + (turnV d d.te 0 mg.fr).L.l.length + mg.es.length ≤ 2199023255552 := hb
  refine V.drawM (V.Fr [kl_17] w13) (fun i => Nat.beq i 10) (fun _ g => g.mono (by simp)) mixed (by kernel_rfl) (by kernel_rfl) ?_
  refine V.mrun T_ok 3 rfl rfl ?_
  refine V.mloadO T_ok (fun w' g => Fk_17.mv g (by intro i hi; simp at hi; omega)) rfl rfl rfl rfl rfl rfl ?_
  refine V.mrun T_ok 1 rfl rfl ?_
  replace Fk2 := Fk2.mvE G14 (by (try dsimp only [V.In]); first | omega | grind)
  refine V.mloadO T_ok (fun w' g => Fk2.mv g (by intro i hi; simp at hi; omega)) rfl rfl rfl rfl rfl rfl ?_
  refine V.mrun T_ok 1 rfl rfl ?_
  refine V.mloadO T_ok (fun w' g => Fk2.mv g (by intro i hi; simp at hi; omega)) rfl rfl rfl rfl rfl rfl ?_
  refine V.mrun T_ok 1 rfl rfl ?_
  refine V.mloadO T_ok (fun w' g => Fk2.mv g (by intro i hi; simp at hi; omega)) rfl rfl rfl rfl rfl rfl ?_
  replace F_me := F_me.mvE G14 (by intro j h hd; (try dsimp only [V.In] at h hd ⊢); first | omega | grind)
  refine V.mcall rfl (fun w' g h => splice_spec (prev := mg.ix) (t := mg.lt) (show Lg w' kl_17 g_17 B_17 (turnV d d.te 0 mg.fr).L from by have g0 := h; exact (FL_17.gr g0)) (show Sl V.Cod.ent w' D_me a_me c_me mg.es from by have g0 := h; exact (F_me.gr g0)) (by have := Fr.size g; intro k h; (try dsimp only [V.In] at h ⊢); first | omega | grind) (by first | omega | simp | decide) (by first | omega | simp | decide) (by first | assumption | (intro x hx; simp at hx; subst hx; dsimp only; omega) | simp)) (by rintro wa va wb ca _ ⟨g18, B19, rfl, F20, h21, h22, G23⟩; exact (ca.trans G23).mono (by intro k hk _; simp at hk ⊢; omega)) rfl rfl rfl ?_
  rintro _ w26 w27 _ _ ⟨g18, B19, rfl, F20, h21, h22, G23⟩
  refine V.mrun T_ok 5 rfl rfl ?_
  refine V.mnil ?_
  rintro w28 c30 hN29
  obtain ⟨w24, c25, g0, ⟨g18, B19, -, F20, h21, h22, G23⟩⟩ := hN29
  have z31 := V.Fr.size g0
  have z32 := V.Fr.size G23
  refine V.tN ?_
  refine V.seq ?_
  refine V.sr ?_
  refine V.ru 2 ?_
  refine V.nt ?_
  refine V.condT rfl (fun h3 => ?_) (fun h3 => ?_)
  ·
   try replace h3 := V.dec h3
   try simp only [V.mk] at h3
   have hsp : ¬ splOk d.L mg.ix mg.lt = true := by (have h3b := h3; first | exact h3b | (intro e; have e2 : splOk (turnV d d.te 0 mg.fr).L mg.ix mg.lt = true := e; rw [e2] at h3b; cases h3b))
   refine V.seq ?_
   have hsv : splV d.L mg.ix mg.lt mg.es = d.L := spl_no hsp
   rw [show splV (turnV d d.te 0 mg.fr).L mg.ix mg.lt mg.es = d.L from hsv] at F20
   have nk9_17 := F20.nk
   have ng9_17 := F20.ng
   have gl9_17 := F20.gl
   have bl9_17 := F20.bl
   replace Fk_17 := Fk_17.gr g0
   replace Fk_17 := Fk_17.ma G23
   replace FQ_17 := FQ_17.gr g0
   replace FQ_17 := FQ_17.mv1 G23 (by (try dsimp only [V.In]); first | omega | grind)
   have F33 : Nd w28 k (fun j => (M8 j ∧ (j ≠ g_17 ∨ g18 = g_17 ∨ j = kl_17)) ∨ j = g18) (fun j => D9 j ∨ B19 j) (turnV d d.te 0 mg.fr) := ⟨⟨hid_17, hrg_17, hte_17, hco_17, hx0_17, hx1_17, hx2_17, hm0_17, hm1_17, hm2_17, hda_17⟩, _, _, _, _, _, _, _, _, _, _, _, _, (hP_17.setL (by omega) (by omega) gl9_17 (by intro j h; grind) bl9_17 ng9_17 nk9_17), hc_17, Fk_17, F20, (FQ_17.mono (fun j h => .inl h))⟩
   clear Fk_17 F20 FQ_17
   refine V.drawGT 11 (V.sel [(7, (fun v wz => v = .int .i64 (lastI (turnV d d.te 0 mg.fr).L)))]) mixed (by kernel_rfl) (V.mono_cons V.eqV_mono V.mono_nil) ?_
   refine V.grun T_ok 2 rfl (V.sel_none rfl) ?_
   replace Fk2 := Fk2.gr g0
   replace Fk2 := Fk2.ma G23
   refine V.gloadO T_ok (fun w' h => Fk2.gr h.1) rfl rfl rfl rfl rfl rfl ?_
   refine V.grun T_ok 1 rfl (V.sel_none rfl) ?_
   refine V.gloadO T_ok (fun w' h => Fk2.gr h.1) rfl rfl rfl rfl rfl rfl ?_
   refine V.gsubM rfl rfl rfl rfl rfl V.lenA V.lenA ?_
   refine V.grun T_ok 1 rfl (V.sel_none rfl) ?_
   refine V.gcall (fun w' h => (rlast_spec (F33.gr h.1)).mono (by rintro v w'' ⟨rfl, G⟩; exact ⟨rfl, G⟩)) rfl rfl rfl rfl ?_
   rintro _ w34 - - rfl
   refine V.grun T_ok 2 rfl (V.sel_none rfl) ?_
   refine V.gmkStruct T_ok zero57 rfl rfl rfl rfl rfl rfl ?_
   refine V.gnil ?_
   rintro w35 G36 hH37
   have z38 := V.Fr.size G36
   clear hH37
   replace F33 := F33.gr G36
   refine V.call (tell_spec (to := mg.fr) (m := (⟨4, 0, 0, 0, 0, max (min (mg.ix - 1) (lastI (turnV d d.te 0 mg.fr).L)) 0, 0, 0, false, [], []⟩ : RMsg)) F33 (Sl.nil _ _ V.None' _ _ (Nat.zero_le _)) (fun _ h => h.elim) (Sl.nil _ _ V.None' _ _ (Nat.zero_le _)) (fun _ h => h.elim) (by intro j h; first | exact h.elim | (have a1 := hM j; (try dsimp only [V.In] at h); grind)) (by intro j h; first | exact h.elim | (have a1 := hM j; (try dsimp only [V.In] at h); grind)) (by first | assumption | omega | (dsimp only [turnV]; omega))) rfl rfl rfl ?_
   rintro _ w44 ⟨M39, D40, rfl, F41, h42, h43, G45⟩
   have z46 := V.FrE.size G45
   refine V.nt ?_
   refine V.ret ?_
   refine V.tR ?_
   rw [show apnV d mg = tellV (turnV d d.te 0 mg.fr) mg.fr (⟨4, 0, 0, 0, 0, max (min (mg.ix - 1) (lastI (turnV d d.te 0 mg.fr).L)) 0, 0, 0, false, [], []⟩ : RMsg) from by unfold apnV; rw [if_neg ho, if_neg hsp]; try rfl]
   refine V.done rfl ?_
   replace HG := HG.grow G4
   replace HG := HG.stepE G14 (by intro i h; (try dsimp only [V.In] at h ⊢); first | omega | grind)
   replace HG := HG.grow g0
   replace HG := HG.n1 G23 (by first | (refine Or.inr ?_; omega) | (refine Or.inl ?_; first | assumption | (dsimp only; grind)) | grind)
   replace HG := HG.grow G36
   replace HG := HG.stepE G45 (by intro i h; (try dsimp only [V.In] at h ⊢); first | omega | grind)
   exact ⟨_, _, (by first | rfl | simp only [List.length_set]), F41, (by intro j h; (try dsimp only [V.In] at *); grind), (by intro j h; (try dsimp only [V.In] at *); grind), HG⟩
  ·
   try replace h3 := V.dec h3
   try simp only [V.mk] at h3
   have hsp : splOk d.L mg.ix mg.lt = true := by (have h3b := h3; first | exact h3b | exact Bool.not_eq_false _ ▸ h3b | simpa using h3b)
   refine V.skip ?_
   refine V.tN ?_
   refine V.seq ?_
   refine V.sr ?_
   refine V.ru 2 ?_
   refine V.nt ?_
   refine V.condT rfl (fun h5 => ?_) (fun h5 => ?_)
   ·
    try replace h5 := V.dec h5
    try simp only [V.mk] at h5
    
    refine V.seq ?_
    have hso9 := F20.ok
    have hlq9 : lastI (splV d.L mg.ix mg.lt mg.es) = (splV d.L mg.ix mg.lt mg.es).base + (splV d.L mg.ix mg.lt mg.es).l.length := rfl
    have hso8 : (0 ≤ (splV d.L mg.ix mg.lt mg.es).base ∧ (splV d.L mg.ix mg.lt mg.es).base + (splV d.L mg.ix mg.lt mg.es).l.length ≤ 2199023255552) ∧ (splV d.L mg.ix mg.lt mg.es).l.length ≤ 1000000 := hso9
    have h5b : 0 < splI d.L mg.ix mg.lt mg.es := h5
    have hsi : splI ((turnV d d.te 0 mg.fr).L) mg.ix mg.lt mg.es = splI d.L mg.ix mg.lt mg.es := rfl
    have nk9_17 := F20.nk
    have ng9_17 := F20.ng
    have gl9_17 := F20.gl
    have bl9_17 := F20.bl
    replace Fk_17 := Fk_17.gr g0
    replace Fk_17 := Fk_17.ma G23
    replace FQ_17 := FQ_17.gr g0
    replace FQ_17 := FQ_17.mv1 G23 (by (try dsimp only [V.In]); first | omega | grind)
    have F47 : Nd w28 k (fun j => (M8 j ∧ (j ≠ g_17 ∨ g18 = g_17 ∨ j = kl_17)) ∨ j = g18) (fun j => D9 j ∨ B19 j) ({ turnV d d.te 0 mg.fr with L := splV d.L mg.ix mg.lt mg.es, nc := d.nc }) := ⟨⟨hid_17, hrg_17, hte_17, hco_17, hx0_17, hx1_17, hx2_17, hm0_17, hm1_17, hm2_17, hda_17⟩, _, _, _, _, _, _, _, _, _, _, _, _, (hP_17.setL (by omega) (by omega) gl9_17 (by intro j h; grind) bl9_17 ng9_17 nk9_17), hc_17, Fk_17, F20, (FQ_17.mono (fun j h => .inl h))⟩
    clear Fk_17 F20 FQ_17
    have hsc := spl_cnt h5b
    have hsl := spl_last (d := d.L) (prev := mg.ix) (t := mg.lt) (es := mg.es)
    refine V.region ?_
    refine V.ru 2 ?_
    refine V.subN rfl rfl rfl rfl rfl V.lenA V.lenA ?_
    refine V.mkStruct T_ok zero113 rfl rfl rfl rfl rfl ?_
    refine V.call (keep_spec (kn := 1) (ix := ((splI ((turnV d d.te 0 mg.fr).L) mg.ix mg.lt mg.es) - 1)) (tm := 0) (et := 0) F47 (Sl.nil _ _ V.None' _ _ (Nat.zero_le _)) (fun _ h => h.elim) (Sl.nil _ _ V.None' _ _ (Nat.zero_le _)) (fun _ h => h.elim)  (by intro j h; first | exact h.elim | (have a1 := hM j; (try dsimp only [V.In] at h); grind)) (by intro j h; first | exact h.elim | (have a1 := hM j; (try dsimp only [V.In] at h); grind)) (by first | assumption | omega | (dsimp only [turnV]; omega))) rfl rfl rfl ?_
    rintro _ w53 ⟨M48, D49, rfl, F50, h51, h52, G54⟩
    have z55 := V.FrE.size G54
    refine V.nt ?_
    refine V.sr ?_
    refine V.ru 2 ?_
    refine V.nt ?_
    refine V.block ?_
    replace F_me := F_me.gr g0
    replace F_me := F_me.mv1 G23 (by (try dsimp only [V.In]); first | omega | grind)
    replace F_me := F_me.mvE G54 (by intro j h hd; (try dsimp only [V.In] at h hd ⊢); first | omega | grind)
    replace F_md := F_md.mvE G14 (by intro j h hd; (try dsimp only [V.In] at h hd ⊢); first | omega | grind)
    replace F_md := F_md.gr g0
    replace F_md := F_md.mv1 G23 (by (try dsimp only [V.In]); first | omega | grind)
    replace F_md := F_md.mvE G54 (by intro j h hd; (try dsimp only [V.In] at h hd ⊢); first | omega | grind)
    replace Fk2 := Fk2.gr g0
    replace Fk2 := Fk2.ma G23
    replace Fk2 := Fk2.mvE G54 (by (try dsimp only [V.In]); first | omega | grind)
    replace HG := HG.grow G4
    replace HG := HG.stepE G14 (by intro i h; (try dsimp only [V.In] at h ⊢); first | omega | grind)
    replace HG := HG.grow g0
    replace HG := HG.n1 G23 (by first | (refine Or.inr ?_; omega) | (refine Or.inl ?_; first | assumption | (dsimp only; grind)) | grind)
    replace HG := HG.stepE G54 (by intro i h; (try dsimp only [V.In] at h ⊢); first | omega | grind)
    refine V.loopM (fun m e v57 => V.FrE M w v57 ∧ w53.heap.size ≤ v57.heap.size ∧ Sl V.Cod.ent v57 D_me a_me c_me mg.es ∧ Sl V.Cod.byte v57 D_md a_md c_md mg.da ∧ Cells v57 k1 [.int .i64 mg.kd, .int .i64 mg.fr, .int .i64 mg.to, .int .i64 mg.rg, .int .i64 mg.te, .int .i64 mg.ix, .int .i64 mg.lt, .int .i64 mg.co, .bool mg.ok, .slice a_me mg.es.length c_me, .slice a_md mg.da.length c_md, .int .i64 q0, .int .i64 q1, .int .i64 q2, .int .i64 q3, .int .i64 q4, .int .i64 q5, .int .i64 q6, .int .i64 q7, .string q8, .int .i64 q9, .int .i64 q10, .int .i64 q11, .string q12, .string q13, .string q14, .bool q15, .int .i64 q16, .int .i64 q17, .int .i64 q18, .int .i64 q19, .bool q20, .bool q21, .slice q22a q22n q22c, .int .i64 q23, .int .i64 q24, .int .i64 q25, .int .i64 q26, .slice q27a q27n q27c, .bool q28, .int .i64 q29, .int .i64 q30, .string q31, .int .i64 q32, .int .i64 q33, .int .i64 q34, .int .i64 q35, .int .i64 q36, .int .i64 q37, .int .i64 q38, .int .i64 q39, .int .i64 q40, .slice q41a q41n q41c] 57 ∧ ∃ (j : Nat) (Mj Dj : Nat → Prop) , m = (lastI (splV d.L mg.ix mg.lt mg.es) - splI d.L mg.ix mg.lt mg.es + 1).toNat - j ∧ j ≤ (lastI (splV d.L mg.ix mg.lt mg.es) - splI d.L mg.ix mg.lt mg.es + 1).toNat ∧ (∀ j, Mj j → M j ∨ w3.heap.size ≤ j) ∧ (∀ j, Dj j → D j ∨ M j ∨ w.heap.size ≤ j) ∧ Nd v57 k Mj Dj ({ turnV d d.te 0 mg.fr with L := splV d.L mg.ix mg.lt mg.es, nc := d.nc + 1 + j }) ∧ e 0 = .pointer (some ⟨k, 0, none⟩) ∧ e 3 = .pointer (some ⟨k1, 0, none⟩) ∧ e 6 = .int .i64 (splI d.L mg.ix mg.lt mg.es + (j : Int))) ?_ ?_
    ·
     have hr58 : keepV ({ turnV d d.te 0 mg.fr with L := splV d.L mg.ix mg.lt mg.es, nc := d.nc }) = { turnV d d.te 0 mg.fr with L := splV d.L mg.ix mg.lt mg.es, nc := d.nc + 1 + 0 } := rfl
     rw [hr58] at F50
     clear hr58
     
     exact ⟨_, HG, (by omega), F_me, F_md, Fk2, (0), (M48), (D49), rfl, (Nat.zero_le _), ((by intro j h; (try dsimp only [V.In] at h ⊢); grind)), ((by intro j h; (try dsimp only [V.In] at h ⊢); grind)), F50, rfl, rfl, (congrArg (Value.int .i64) (Int.add_zero _).symm)⟩
    clear HG F_me F_md Fk2 F50
    rintro _ e v57 ⟨HG, z59, F_me, F_md, Fk2, j, Mj, Dj, rfl, hj, hMj, hDj, F50, he0_0, he0_3, he0_6⟩
    refine V.knownC (t := 0) he0_0 ?_
    refine V.knownC (t := 3) he0_3 ?_
    refine V.knownC (t := 6) he0_6 ?_
    refine V.seq ?_
    refine V.sr ?_
    refine V.ru 2 ?_
    refine V.call (rlast_spec F50) rfl rfl rfl ?_
    rintro _ w60 ⟨rfl, G61⟩
    have z62 := V.Fr.size G61
    refine V.ru 1 ?_
    refine V.nt ?_
    refine V.condT rfl (fun h8 => ?_) (fun h8 => ?_)
    ·
     try replace h8 := V.dec h8
     try simp only [V.mk] at h8
     
     refine V.skip ?_
     refine V.tN ?_
     refine V.seq ?_
     refine V.block ?_
     refine V.seq ?_
     replace F50 := F50.gr G61
     obtain ⟨kl_63, g_63, B_63, SO_63, SC_63, ad_63, cd_63, ao_63, co_63, ac_63, cc_63, ch_63, hP_63, hc_63, Fk_63, FL_63, FQ_63⟩ := F50.ex
     obtain ⟨hid_63, hrg_63, hte_63, hco_63, hx0_63, hx1_63, hx2_63, hm0_63, hm1_63, hm2_63, hda_63⟩ := F50.ok
     try dsimp only [turnV] at hid_63 hrg_63 hte_63 hco_63 hx0_63 hx1_63 hx2_63 hm0_63 hm1_63 hm2_63 hda_63
     have nk_63 := hP_63.nk
     have nl_63 := hP_63.nl
     have ng_63 := hP_63.ng
     have kL_63 := hP_63.kL
     have lq_63 := hP_63.lq
     have bd_63 := hP_63.d
     obtain ⟨mk_63, ml_63, mg_63⟩ := hP_63.m
     have hA_63 := hP_63.a
     have lm_63 := hP_63.lm
     have ld_63 := hP_63.ld
     have hLo_63 := FL_63.ok
     have hLd_63 := FL_63.dl
     have hLg_63 := FL_63.gl
     have hLk_63 := FL_63.lt
     have hLb_63 := FL_63.bl
     have hkl_63 := Fk_63.lt
     have ha_63k1 : k1 ≠ kl_63 ∧ k1 ≠ g_63 := by constructor <;> (intro e_; grind)
     refine V.region ?_
     refine V.ru 3 ?_
     refine V.loadO T_ok Fk_63 rfl rfl rfl rfl rfl ?_
     refine V.ru 1 ?_
     refine V.call (entry_spec (i := (splI d.L mg.ix mg.lt mg.es + (j : Int))) FL_63) rfl rfl rfl ?_
     rintro _ w67 ⟨a64, c65, rfl, F66, G68⟩
     have z69 := V.Fr.size G68
     refine V.ru 3 ?_
     refine V.alloc zero30 rfl rfl rfl ?_
     rintro k70 w72 s74 s75 G73 Fk71
     have z76 := V.Fr.size G73
     try simp only [V.cellsL, V.spliceL] at Fk71
     refine V.storeO Fk71 rfl rfl rfl rfl sz30 rfl rfl rfl rfl ?_
     rintro w77 G78 z80 Fs79
     clear Fk71
     have z81 := V.Fr.size G78
     have Fk71 := Fs79; clear Fs79
     simp only [V.spliceL, V.cellsL] at Fk71
     refine V.ru 1 ?_
     refine V.nt ?_
     have h8b : splI d.L mg.ix mg.lt mg.es + (j : Int) ≤ lastI (splV d.L mg.ix mg.lt mg.es) := h8
     have hjm : d.nc + 1 + j + 1 ≤ 1000000 := by omega
     refine V.region ?_
     refine V.ru 2 ?_
     refine V.loadO T_ok Fk71 rfl rfl rfl rfl rfl ?_
     refine V.mkStruct T_ok zero113 rfl rfl rfl rfl rfl ?_
     replace F50 := F50.gr (G68.trans G73)
     replace F50 := F50.mv1 G78 (by (try dsimp only [V.In]); first | omega | grind)
     replace F66 := F66.gr G73
     replace F66 := F66.ma G78
     refine V.call (keep_spec (kn := 2) (ix := (splI d.L mg.ix mg.lt mg.es + (j : Int))) (tm := 0) (et := ((entV (({ turnV d d.te 0 mg.fr with L := splV d.L mg.ix mg.lt mg.es, nc := d.nc + 1 + j }).L) (splI d.L mg.ix mg.lt mg.es + (j : Int))).1)) F50 F66.sl (fun k hk => by have := hk.2; omega) (Sl.nil _ _ V.None' _ _ (Nat.zero_le _)) (fun _ h => h.elim)  (by intro j h; first | exact h.elim | (have a1 := hM j; (try dsimp only [V.In] at h); grind)) (by intro j h; first | exact h.elim | (have a1 := hM j; (try dsimp only [V.In] at h); grind)) (by first | assumption | omega | (dsimp only [turnV]; omega))) rfl rfl rfl ?_
     rintro _ w87 ⟨M82, D83, rfl, F84, h85, h86, G88⟩
     have z89 := V.FrE.size G88
     refine V.nil ?_
     refine V.bN ?_
     refine V.tN ?_
     refine V.region ?_
     refine V.ru 1 ?_
     refine V.addN rfl rfl rfl rfl rfl V.lenA V.lenA ?_
     refine V.ru 1 ?_
     refine V.nt ?_
     have hr90 : keepV ({ turnV d d.te 0 mg.fr with L := splV d.L mg.ix mg.lt mg.es, nc := d.nc + 1 + j }) = { turnV d d.te 0 mg.fr with L := splV d.L mg.ix mg.lt mg.es, nc := d.nc + 1 + (j + 1) } := rfl
     rw [hr90] at F84
     clear hr90
     replace F_me := F_me.gr (G61.trans (G68.trans G73))
     replace F_me := F_me.mv1 G78 (by (try dsimp only [V.In]); first | omega | grind)
     replace F_me := F_me.mvE G88 (by intro j h hd; (try dsimp only [V.In] at h hd ⊢); first | omega | grind)
     replace F_md := F_md.gr (G61.trans (G68.trans G73))
     replace F_md := F_md.mv1 G78 (by (try dsimp only [V.In]); first | omega | grind)
     replace F_md := F_md.mvE G88 (by intro j h hd; (try dsimp only [V.In] at h hd ⊢); first | omega | grind)
     replace Fk2 := Fk2.gr (G61.trans (G68.trans G73))
     replace Fk2 := Fk2.ma G78
     replace Fk2 := Fk2.mvE G88 (by (try dsimp only [V.In]); first | omega | grind)
     replace HG := HG.grow (G61.trans (G68.trans G73))
     replace HG := HG.n1 G78 (by first | (refine Or.inr ?_; omega) | (refine Or.inl ?_; first | assumption | (dsimp only; grind)) | grind)
     replace HG := HG.stepE G88 (by intro i h; (try dsimp only [V.In] at h ⊢); first | omega | grind)
     exact ⟨_, (by have h8b : splI d.L mg.ix mg.lt mg.es + (j : Int) ≤ lastI (splV d.L mg.ix mg.lt mg.es) := h8; omega), HG, (by omega), F_me, F_md, Fk2, (j + 1), (M82), (D83), rfl, (by have h8b : splI d.L mg.ix mg.lt mg.es + (j : Int) ≤ lastI (splV d.L mg.ix mg.lt mg.es) := h8; omega), ((by intro j h; (try dsimp only [V.In] at h ⊢); grind)), ((by intro j h; (try dsimp only [V.In] at h ⊢); grind)), F84, rfl, rfl, (congrArg (Value.int .i64) (by omega))⟩
    ·
     try replace h8 := V.dec h8
     try simp only [V.mk] at h8
     
     refine V.exit ?_
     refine V.tX ?_
     refine V.tX ?_
     refine V.bE ?_
     refine V.tN ?_
     refine V.seq ?_
     have hjc : j = (lastI (splV d.L mg.ix mg.lt mg.es) - splI d.L mg.ix mg.lt mg.es + 1).toNat := by have h8b : ¬ (splI d.L mg.ix mg.lt mg.es + (j : Int) ≤ lastI (splV d.L mg.ix mg.lt mg.es)) := (by first | exact h8 | exact Int.not_le.2 h8); omega
     refine V.region ?_
     refine V.ru 1 ?_
     replace Fk2 := Fk2.gr G61
     refine V.loadO T_ok Fk2 rfl rfl rfl rfl rfl ?_
     refine V.ru 1 ?_
     refine V.loadO T_ok Fk2 rfl rfl rfl rfl rfl ?_
     refine V.ru 1 ?_
     refine V.addN rfl rfl rfl rfl rfl V.lenA V.lenA ?_
     refine V.ru 1 ?_
     refine V.nt ?_
     refine V.seq ?_
     replace F50 := F50.gr G61
     obtain ⟨kl_91, g_91, B_91, SO_91, SC_91, ad_91, cd_91, ao_91, co_91, ac_91, cc_91, ch_91, hP_91, hc_91, Fk_91, FL_91, FQ_91⟩ := F50.ex
     obtain ⟨hid_91, hrg_91, hte_91, hco_91, hx0_91, hx1_91, hx2_91, hm0_91, hm1_91, hm2_91, hda_91⟩ := F50.ok
     try dsimp only [turnV] at hid_91 hrg_91 hte_91 hco_91 hx0_91 hx1_91 hx2_91 hm0_91 hm1_91 hm2_91 hda_91
     have nk_91 := hP_91.nk
     have nl_91 := hP_91.nl
     have ng_91 := hP_91.ng
     have kL_91 := hP_91.kL
     have lq_91 := hP_91.lq
     have bd_91 := hP_91.d
     obtain ⟨mk_91, ml_91, mg_91⟩ := hP_91.m
     have hA_91 := hP_91.a
     have lm_91 := hP_91.lm
     have ld_91 := hP_91.ld
     have hLo_91 := FL_91.ok
     have hLd_91 := FL_91.dl
     have hLg_91 := FL_91.gl
     have hLk_91 := FL_91.lt
     have hLb_91 := FL_91.bl
     have hkl_91 := Fk_91.lt
     have ha_91k1 : k1 ≠ kl_91 ∧ k1 ≠ g_91 := by constructor <;> (intro e_; grind)
     clear F50
     refine V.drawT 12 mixed (by kernel_rfl) ?_
     rintro w92 G93 s94
     have z95 := V.Fr.size G93
     refine V.qrun T_ok 4 rfl ?_
     replace Fk_91 := Fk_91.gr G93
     refine V.qloadO T_ok Fk_91 rfl rfl rfl rfl rfl ?_
     refine V.qrun T_ok 1 rfl ?_
     replace Fk2 := Fk2.gr G93
     refine V.qloadO T_ok Fk2 rfl rfl rfl rfl rfl ?_
     refine V.qrun T_ok 5 rfl ?_
     refine V.qnil ?_
     refine V.storeO Fk_91 rfl rfl rfl rfl sz3 rfl rfl rfl rfl ?_
     rintro w96 G97 z99 Fs98
     clear Fk_91
     have z100 := V.Fr.size G97
     have Fk_91 := Fs98; clear Fs98
     simp only [V.spliceL, V.cellsL] at Fk_91
     refine V.nt ?_
     replace FL_91 := FL_91.gr G93
     replace FL_91 := FL_91.mv1 G97 (by (try dsimp only [V.In]); first | omega | grind)
     replace FQ_91 := FQ_91.gr G93
     replace FQ_91 := FQ_91.mv1 G97 (by (try dsimp only [V.In]); first | omega | grind)
     have F101 : Nd w96 k Mj Dj ({ turnV d d.te 0 mg.fr with L := splV d.L mg.ix mg.lt mg.es, nc := d.nc + 1 + j, co := max d.co (min mg.co (mg.ix + mg.es.length)) }) := ⟨⟨hid_91, hrg_91, hte_91, ⟨by dsimp only; omega, by dsimp only; omega⟩, hx0_91, hx1_91, hx2_91, hm0_91, hm1_91, hm2_91, hda_91⟩, _, _, _, _, _, _, _, _, _, _, _, _, (hP_91.up (by omega)), hc_91, Fk_91, FL_91, FQ_91⟩
     clear Fk_91 FL_91 FQ_91
     refine V.region ?_
     refine V.ru 2 ?_
     replace Fk2 := Fk2.ma G97
     refine V.loadO T_ok Fk2 rfl rfl rfl rfl rfl ?_
     refine V.ru 1 ?_
     refine V.mkStruct T_ok zero57 rfl rfl rfl rfl rfl ?_
     refine V.call (tell_spec (to := mg.fr) (m := (⟨4, 0, 0, 0, 0, mg.ix + (mg.es.length : Int), 0, 0, true, [], []⟩ : RMsg)) F101 (Sl.nil _ _ V.None' _ _ (Nat.zero_le _)) (fun _ h => h.elim) (Sl.nil _ _ V.None' _ _ (Nat.zero_le _)) (fun _ h => h.elim) (by intro j h; first | exact h.elim | (have a1 := hM j; (try dsimp only [V.In] at h); grind)) (by intro j h; first | exact h.elim | (have a1 := hM j; (try dsimp only [V.In] at h); grind)) (by first | assumption | omega | (dsimp only [turnV]; omega))) rfl rfl rfl ?_
     rintro _ w107 ⟨M102, D103, rfl, F104, h105, h106, G108⟩
     have z109 := V.FrE.size G108
     refine V.nil ?_
     subst hjc
     rw [show apnV d mg = tellV ({ turnV d d.te 0 mg.fr with L := splV d.L mg.ix mg.lt mg.es, nc := d.nc + 1 + (lastI (splV d.L mg.ix mg.lt mg.es) - splI d.L mg.ix mg.lt mg.es + 1).toNat, co := max d.co (min mg.co (mg.ix + mg.es.length)) }) mg.fr (⟨4, 0, 0, 0, 0, mg.ix + (mg.es.length : Int), 0, 0, true, [], []⟩ : RMsg) from by unfold apnV; rw [if_neg ho, if_pos hsp, if_pos h5b]; try rfl]
     refine V.doneN rfl ?_
     replace HG := HG.grow (G61.trans G93)
     replace HG := HG.n1 G97 (by first | (refine Or.inr ?_; omega) | (refine Or.inl ?_; first | assumption | (dsimp only; grind)) | grind)
     replace HG := HG.stepE G108 (by intro i h; (try dsimp only [V.In] at h ⊢); first | omega | grind)
     exact ⟨_, _, (by first | rfl | simp only [List.length_set]), F104, (by intro j h; (try dsimp only [V.In] at *); grind), (by intro j h; (try dsimp only [V.In] at *); grind), HG⟩
   ·
    try replace h5 := V.dec h5
    try simp only [V.mk] at h5
    
    refine V.skip ?_
    refine V.tN ?_
    refine V.seq ?_
    have nk9_17 := F20.nk
    have ng9_17 := F20.ng
    have gl9_17 := F20.gl
    have bl9_17 := F20.bl
    replace Fk_17 := Fk_17.gr g0
    replace Fk_17 := Fk_17.ma G23
    replace FQ_17 := FQ_17.gr g0
    replace FQ_17 := FQ_17.mv1 G23 (by (try dsimp only [V.In]); first | omega | grind)
    have F110 : Nd w28 k (fun j => (M8 j ∧ (j ≠ g_17 ∨ g18 = g_17 ∨ j = kl_17)) ∨ j = g18) (fun j => D9 j ∨ B19 j) ({ turnV d d.te 0 mg.fr with L := splV d.L mg.ix mg.lt mg.es, nc := d.nc }) := ⟨⟨hid_17, hrg_17, hte_17, hco_17, hx0_17, hx1_17, hx2_17, hm0_17, hm1_17, hm2_17, hda_17⟩, _, _, _, _, _, _, _, _, _, _, _, _, (hP_17.setL (by omega) (by omega) gl9_17 (by intro j h; grind) bl9_17 ng9_17 nk9_17), hc_17, Fk_17, F20, (FQ_17.mono (fun j h => .inl h))⟩
    clear Fk_17 F20 FQ_17
    refine V.region ?_
    refine V.ru 1 ?_
    replace Fk2 := Fk2.gr g0
    replace Fk2 := Fk2.ma G23
    refine V.loadO T_ok Fk2 rfl rfl rfl rfl rfl ?_
    refine V.ru 1 ?_
    refine V.loadO T_ok Fk2 rfl rfl rfl rfl rfl ?_
    refine V.ru 1 ?_
    refine V.addN rfl rfl rfl rfl rfl V.lenA V.lenA ?_
    refine V.ru 1 ?_
    refine V.nt ?_
    refine V.seq ?_
    obtain ⟨kl_111, g_111, B_111, SO_111, SC_111, ad_111, cd_111, ao_111, co_111, ac_111, cc_111, ch_111, hP_111, hc_111, Fk_111, FL_111, FQ_111⟩ := F110.ex
    obtain ⟨hid_111, hrg_111, hte_111, hco_111, hx0_111, hx1_111, hx2_111, hm0_111, hm1_111, hm2_111, hda_111⟩ := F110.ok
    try dsimp only [turnV] at hid_111 hrg_111 hte_111 hco_111 hx0_111 hx1_111 hx2_111 hm0_111 hm1_111 hm2_111 hda_111
    have nk_111 := hP_111.nk
    have nl_111 := hP_111.nl
    have ng_111 := hP_111.ng
    have kL_111 := hP_111.kL
    have lq_111 := hP_111.lq
    have bd_111 := hP_111.d
    obtain ⟨mk_111, ml_111, mg_111⟩ := hP_111.m
    have hA_111 := hP_111.a
    have lm_111 := hP_111.lm
    have ld_111 := hP_111.ld
    have hLo_111 := FL_111.ok
    have hLd_111 := FL_111.dl
    have hLg_111 := FL_111.gl
    have hLk_111 := FL_111.lt
    have hLb_111 := FL_111.bl
    have hkl_111 := Fk_111.lt
    have ha_111k1 : k1 ≠ kl_111 ∧ k1 ≠ g_111 := by constructor <;> (intro e_; grind)
    clear F110
    refine V.drawT 12 mixed (by kernel_rfl) ?_
    rintro w112 G113 s114
    have z115 := V.Fr.size G113
    refine V.qrun T_ok 4 rfl ?_
    replace Fk_111 := Fk_111.gr G113
    refine V.qloadO T_ok Fk_111 rfl rfl rfl rfl rfl ?_
    refine V.qrun T_ok 1 rfl ?_
    replace Fk2 := Fk2.gr G113
    refine V.qloadO T_ok Fk2 rfl rfl rfl rfl rfl ?_
    refine V.qrun T_ok 5 rfl ?_
    refine V.qnil ?_
    refine V.storeO Fk_111 rfl rfl rfl rfl sz3 rfl rfl rfl rfl ?_
    rintro w116 G117 z119 Fs118
    clear Fk_111
    have z120 := V.Fr.size G117
    have Fk_111 := Fs118; clear Fs118
    simp only [V.spliceL, V.cellsL] at Fk_111
    refine V.nt ?_
    replace FL_111 := FL_111.gr G113
    replace FL_111 := FL_111.mv1 G117 (by (try dsimp only [V.In]); first | omega | grind)
    replace FQ_111 := FQ_111.gr G113
    replace FQ_111 := FQ_111.mv1 G117 (by (try dsimp only [V.In]); first | omega | grind)
    have F121 : Nd w116 k (fun j => (M8 j ∧ (j ≠ g_17 ∨ g18 = g_17 ∨ j = kl_17)) ∨ j = g18) (fun j => D9 j ∨ B19 j) ({ turnV d d.te 0 mg.fr with L := splV d.L mg.ix mg.lt mg.es, nc := d.nc, co := max d.co (min mg.co (mg.ix + mg.es.length)) }) := ⟨⟨hid_111, hrg_111, hte_111, ⟨by dsimp only; omega, by dsimp only; omega⟩, hx0_111, hx1_111, hx2_111, hm0_111, hm1_111, hm2_111, hda_111⟩, _, _, _, _, _, _, _, _, _, _, _, _, (hP_111.up (by omega)), hc_111, Fk_111, FL_111, FQ_111⟩
    clear Fk_111 FL_111 FQ_111
    refine V.region ?_
    refine V.ru 2 ?_
    replace Fk2 := Fk2.ma G117
    refine V.loadO T_ok Fk2 rfl rfl rfl rfl rfl ?_
    refine V.ru 1 ?_
    refine V.mkStruct T_ok zero57 rfl rfl rfl rfl rfl ?_
    refine V.call (tell_spec (to := mg.fr) (m := (⟨4, 0, 0, 0, 0, mg.ix + (mg.es.length : Int), 0, 0, true, [], []⟩ : RMsg)) F121 (Sl.nil _ _ V.None' _ _ (Nat.zero_le _)) (fun _ h => h.elim) (Sl.nil _ _ V.None' _ _ (Nat.zero_le _)) (fun _ h => h.elim) (by intro j h; first | exact h.elim | (have a1 := hM j; (try dsimp only [V.In] at h); grind)) (by intro j h; first | exact h.elim | (have a1 := hM j; (try dsimp only [V.In] at h); grind)) (by first | assumption | omega | (dsimp only [turnV]; omega))) rfl rfl rfl ?_
    rintro _ w127 ⟨M122, D123, rfl, F124, h125, h126, G128⟩
    have z129 := V.FrE.size G128
    refine V.nil ?_
    rw [show apnV d mg = tellV ({ turnV d d.te 0 mg.fr with L := splV d.L mg.ix mg.lt mg.es, nc := d.nc, co := max d.co (min mg.co (mg.ix + mg.es.length)) }) mg.fr (⟨4, 0, 0, 0, 0, mg.ix + (mg.es.length : Int), 0, 0, true, [], []⟩ : RMsg) from by unfold apnV; rw [if_neg ho, if_pos hsp, if_neg (show ¬ 0 < splI d.L mg.ix mg.lt mg.es from by have h5c : ¬ 0 < splI d.L mg.ix mg.lt mg.es := (by first | exact h5 | exact Int.not_lt.2 h5); exact h5c)]; try rfl]
    refine V.doneN rfl ?_
    replace HG := HG.grow G4
    replace HG := HG.stepE G14 (by intro i h; (try dsimp only [V.In] at h ⊢); first | omega | grind)
    replace HG := HG.grow g0
    replace HG := HG.n1 G23 (by first | (refine Or.inr ?_; omega) | (refine Or.inl ?_; first | assumption | (dsimp only; grind)) | grind)
    replace HG := HG.grow G113
    replace HG := HG.n1 G117 (by first | (refine Or.inr ?_; omega) | (refine Or.inl ?_; first | assumption | (dsimp only; grind)) | grind)
    replace HG := HG.stepE G128 (by intro i h; (try dsimp only [V.In] at h ⊢); first | omega | grind)
    exact ⟨_, _, (by first | rfl | simp only [List.length_set]), F124, (by intro j h; (try dsimp only [V.In] at *); grind), (by intro j h; (try dsimp only [V.In] at *); grind), HG⟩

end Go.Proofs.Ytphohfpbdkgnaaa
