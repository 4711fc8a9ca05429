/- Proved here: walks: what functions of this seat's program return and what they leave of memory, each as a contract. Conditions: stated at each theorem. -/
import Derived.Test.YtphohfpbdkgnaaaMraft2
namespace Go.Proofs.Ytphohfpbdkgnaaa
set_option linter.unusedVariables false
set_option linter.unusedSimpArgs false
open Go
open V (Bytes Meets Env Sl Own Gr Fr Cells S)
set_option maxHeartbeats 4000000 in
set_option maxRecDepth 10000 in
theorem elect1_spec {w : World} {k : Nat} {M D : Nat → Prop} {d : NodeV} (FX : Nd w k M D d) {kb ki kt : Nat} {i t : Int} (Fb : Cells w kb [.pointer (some ⟨k, 0, none⟩)] 33) (Fi : Cells w ki [.int .i64 i] 3) (Ft : Cells w kt [.int .i64 t] 3) {kk : Int} (hs : d.out.length + 1 ≤ 1000000) :
    Meets Try.prog 42 [.int .i64 kk, .pointer (some ⟨kb, 0, none⟩), .pointer (some ⟨ki, 0, none⟩), .pointer (some ⟨kt, 0, none⟩)] w fun r w' => ∃ (rM23 : Nat → Prop) (rD23 : Nat → Prop), r = .tuple #[] ∧ Nd w' k rM23 rD23 (askV d kk i t) ∧ (∀ j, rM23 j → M j ∨ w.heap.size ≤ j) ∧ (∀ j, rD23 j → D j ∨ M j ∨ w.heap.size ≤ j) ∧ V.FrE M w w' := by
 have hM := FX.lm
 have hk0 := FX.lm _ FX.mk'
 have hD := FX.ld
 have hMD := FX.dj
 have hMk := FX.mk'
 have HG := V.FrE.refl M w
 refine V.enter (n := 11) Try.func42 rfl rfl (by decide) rfl ?_
 refine V.region ?_
 refine V.loadO T_ok Fb rfl rfl rfl rfl rfl ?_
 refine V.ru 1 ?_
 refine V.loadO T_ok Fi rfl rfl rfl rfl rfl ?_
 refine V.loadO T_ok Ft rfl rfl rfl rfl rfl ?_
 refine V.mkStruct T_ok zero57 rfl rfl rfl rfl rfl ?_
 refine V.call (tell_spec (to := kk) (m := (⟨1, 0, 0, 0, 0, i, t, 0, false, [], []⟩ : RMsg)) FX (Sl.nil _ _ V.None' _ _ (Nat.zero_le _)) (fun _ h => h.elim) (Sl.nil _ _ V.None' _ _ (Nat.zero_le _)) (fun _ h => h.elim) (by intro j h; first | exact h.elim | (have a1 := hM j; (try dsimp only [V.In] at h); grind)) (by intro j h; first | exact h.elim | (have a1 := hM j; (try dsimp only [V.In] at h); grind)) (by first | assumption | omega | (dsimp only [turnV]; omega))) rfl rfl rfl ?_
 rintro _ w6 ⟨M1, D2, rfl, F3, h4, h5, G7⟩
 have z8 := V.FrE.size G7
 refine V.nil ?_
 refine V.doneN rfl ?_
 replace HG := HG.stepE G7 (by intro i h; (try dsimp only [V.In] at h ⊢); first | omega | grind)
 exact ⟨_, _, (by first | rfl | simp only [List.length_set]), F3, (by intro j h; (try dsimp only [V.In] at h ⊢); grind), (by intro j h; (try dsimp only [V.In] at h ⊢); grind), HG⟩

theorem ask_out (d : NodeV) (k i t : Int) : (askV d k i t).out.length = d.out.length + 1 := tell_out _ _ _

set_option maxHeartbeats 4000000 in
set_option maxRecDepth 10000 in
theorem oth_elect {w : World} {k : Nat} {M D : Nat → Prop} {d : NodeV} (FX : Nd w k M D d) {kb ki kt : Nat} {i t : Int} (Fb : Cells w kb [.pointer (some ⟨k, 0, none⟩)] 33) (Fi : Cells w ki [.int .i64 i] 3) (Ft : Cells w kt [.int .i64 t] 3)  (hb : ¬ M kb) (hi : ¬ M ki) (ht : ¬ M kt) (hs : d.out.length + 3 ≤ 1000000) :
    Meets Try.prog 41 [.pointer (some ⟨k, 0, none⟩), .func (.func 42) #[] #[.pointer (some ⟨kb, 0, none⟩), .pointer (some ⟨ki, 0, none⟩), .pointer (some ⟨kt, 0, none⟩)]] w fun r w' => ∃ (rM24 : Nat → Prop) (rD24 : Nat → Prop), r = .tuple #[] ∧ Nd w' k rM24 rD24 (othV (fun e kk => askV e kk i t) d 3) ∧ (∀ j, rM24 j → M j ∨ w.heap.size ≤ j) ∧ (∀ j, rD24 j → D j ∨ M j ∨ w.heap.size ≤ j) ∧ V.FrE M w w' := by
 have hM := FX.lm
 have hk0 := FX.lm _ FX.mk'
 have hD := FX.ld
 have hMD := FX.dj
 have hMk := FX.mk'
 have hbl := Fb.lt
 have hil := Fi.lt
 have htl := Ft.lt
 have HG := V.FrE.refl M w
 refine V.enter (n := 18) Try.func41 rfl rfl (by decide) rfl ?_
 refine V.sr ?_
 refine V.ru 1 ?_
 refine V.nt ?_
 refine V.block ?_
 refine V.loopM (fun m e v2 => V.FrE M w v2 ∧ w.heap.size ≤ v2.heap.size ∧ Cells v2 kb [.pointer (some ⟨k, 0, none⟩)] 33 ∧ Cells v2 ki [.int .i64 i] 3 ∧ Cells v2 kt [.int .i64 t] 3 ∧ ∃ (j : Nat) (Mi Di : Nat → Prop) , m = 3 - j ∧ j ≤ 3 ∧ (othV (fun e kk => askV e kk i t) d j).out.length ≤ d.out.length + j ∧ (∀ j, Mi j → M j ∨ w.heap.size ≤ j) ∧ (∀ j, Di j → D j ∨ M j ∨ w.heap.size ≤ j) ∧ Nd v2 k Mi Di (othV (fun e kk => askV e kk i t) d j) ∧ e 0 = .pointer (some ⟨k, 0, none⟩) ∧ e 1 = .func (.func 42) #[] #[.pointer (some ⟨kb, 0, none⟩), .pointer (some ⟨ki, 0, none⟩), .pointer (some ⟨kt, 0, none⟩)] ∧ e 5 = .int .i64 (j : Int)) ?_ ?_
 ·
  exact ⟨_, HG, (by omega), Fb, Fi, Ft, (0), (M), (D), rfl, (Nat.zero_le _), (Nat.le_refl _), ((by intro j h; (try dsimp only [V.In] at h ⊢); grind)), ((by intro j h; (try dsimp only [V.In] at h ⊢); grind)), FX, rfl, rfl, rfl⟩
 clear HG Fb Fi Ft FX
 rintro _ e v2 ⟨HG, z3, Fb, Fi, Ft, j, Mi, Di, rfl, hj, hol, hMi, hDi, FX, he0_0, he0_1, he0_5⟩
 refine V.knownC (t := 0) he0_0 ?_
 refine V.knownC (t := 1) he0_1 ?_
 refine V.knownC (t := 5) he0_5 ?_
 refine V.sr ?_
 refine V.ru 1 ?_
 refine V.nt ?_
 refine V.seq ?_
 refine V.condT rfl (fun h1 => ?_) (fun h1 => ?_)
 ·
  try replace h1 := V.dec h1
  try simp only [V.mk] at h1
  refine V.skip ?_
  refine V.tN ?_
  refine V.seq ?_
  refine V.block ?_
  refine V.sr ?_
  refine V.ru 2 ?_
  refine V.nt ?_
  refine V.seq ?_
  obtain ⟨kl_4, g_4, B_4, SO_4, SC_4, ad_4, cd_4, ao_4, co_4, ac_4, cc_4, ch_4, hP_4, hc_4, Fk_4, FL_4, FQ_4⟩ := FX.ex
  obtain ⟨hid_4, hrg_4, hte_4, hco_4, hx0_4, hx1_4, hx2_4, hm0_4, hm1_4, hm2_4, hda_4⟩ := FX.ok
  have nk_4 := hP_4.nk
  have nl_4 := hP_4.nl
  have ng_4 := hP_4.ng
  have kL_4 := hP_4.kL
  have lq_4 := hP_4.lq
  have bd_4 := hP_4.d
  obtain ⟨mk_4, ml_4, mg_4⟩ := hP_4.m
  have hA_4 := hP_4.a
  have lm_4 := hP_4.lm
  have ld_4 := hP_4.ld
  have hLo_4 := FL_4.ok
  have hLd_4 := FL_4.dl
  have hLg_4 := FL_4.gl
  have hLk_4 := FL_4.lt
  have hLb_4 := FL_4.bl
  have hkl_4 := Fk_4.lt
  have ha_4kb : kb ≠ kl_4 ∧ kb ≠ g_4 := by constructor <;> (intro e_; grind)
  have ha_4ki : ki ≠ kl_4 ∧ ki ≠ g_4 := by constructor <;> (intro e_; grind)
  have ha_4kt : kt ≠ kl_4 ∧ kt ≠ g_4 := by constructor <;> (intro e_; grind)
  refine V.region ?_
  refine V.ru 4 ?_
  refine V.loadO T_ok Fk_4 rfl rfl rfl rfl rfl ?_
  refine V.ru 1 ?_
  refine V.nt ?_
  refine V.condT rfl (fun h3 => ?_) (fun h3 => ?_)
  ·
   try replace h3 := V.dec h3
   try simp only [V.mk] at h3
   refine V.region ?_
   refine V.ru 2 ?_
   refine V.call (elect1_spec (kk := (j : Int)) (FX := FX) (Fb := Fb) (Fi := Fi) (Ft := Ft) (by first | assumption | omega)) rfl rfl rfl ?_
   rintro _ w10 ⟨M5, D6, rfl, F7, h8, h9, G11⟩
   have z12 := V.FrE.size G11
   refine V.nil ?_
   refine V.bN ?_
   refine V.tN ?_
   refine V.region ?_
   refine V.addN rfl rfl rfl rfl rfl V.lenA V.lenA ?_
   refine V.ru 1 ?_
   refine V.nt ?_
   have hr13 : askV (othV (fun e kk => askV e kk i t) d j) (j : Int) i t = othV (fun e kk => askV e kk i t) d (j + 1) := oth_yes h3
   rw [hr13] at F7
   clear hr13
   replace Fb := Fb.mvE G11 (by (try dsimp only [V.In]); first | omega | grind)
   replace Fi := Fi.mvE G11 (by (try dsimp only [V.In]); first | omega | grind)
   replace Ft := Ft.mvE G11 (by (try dsimp only [V.In]); first | omega | grind)
   replace HG := HG.stepE G11 (by intro i h; (try dsimp only [V.In] at h ⊢); first | omega | grind)
   exact ⟨_, (by omega), HG, (by omega), Fb, Fi, Ft, (j + 1), (M5), (D6), rfl, (by omega), (by have := oth_out (f := (fun e kk => askV e kk i t)) (fun e k => ask_out e k i t) d (j + 1); omega), ((by intro j h; (try dsimp only [V.In] at h ⊢); grind)), ((by intro j h; (try dsimp only [V.In] at h ⊢); grind)), F7, rfl, rfl, rfl⟩
  ·
   try replace h3 := V.dec h3
   try simp only [V.mk] at h3
   refine V.skip ?_
   refine V.bN ?_
   refine V.tN ?_
   refine V.region ?_
   refine V.addN rfl rfl rfl rfl rfl V.lenA V.lenA ?_
   refine V.ru 1 ?_
   refine V.nt ?_
   have hr14 : othV (fun e kk => askV e kk i t) d j = othV (fun e kk => askV e kk i t) d (j + 1) := oth_no (by first | exact h3 | exact Decidable.not_not.1 h3)
   rw [hr14] at FX
   clear hr14
   exact ⟨_, (by omega), HG, (by omega), Fb, Fi, Ft, (j + 1), (Mi), (Di), rfl, (by omega), (by have := oth_out (f := (fun e kk => askV e kk i t)) (fun e k => ask_out e k i t) d (j + 1); omega), ((by intro j h; (try dsimp only [V.In] at h ⊢); grind)), ((by intro j h; (try dsimp only [V.In] at h ⊢); grind)), FX, rfl, rfl, rfl⟩
 ·
  try replace h1 := V.dec h1
  try simp only [V.mk] at h1
  refine V.exit ?_
  refine V.tX ?_
  refine V.tX ?_
  refine V.bE ?_
  obtain rfl : j = 3 := by omega
  refine V.doneN rfl ?_
  exact ⟨_, _, (by first | rfl | simp only [List.length_set]), FX, (by intro j h; (try dsimp only [V.In] at h ⊢); grind), (by intro j h; (try dsimp only [V.In] at h ⊢); grind), HG⟩

set_option maxHeartbeats 4000000 in
set_option maxRecDepth 10000 in
theorem elect_spec {w : World} {k : Nat} {M D : Nat → Prop} {d : NodeV} (FX : Nd w k M D d)  (hs : d.out.length + 3 ≤ 1000000) :
    Meets Try.prog 13 [.pointer (some ⟨k, 0, none⟩)] w fun r w' => ∃ (rM25 : Nat → Prop) (rD25 : Nat → Prop), r = .int .i64 (electE d) ∧ Nd w' k rM25 rD25 (electV d) ∧ (∀ j, rM25 j → M j ∨ w.heap.size ≤ j) ∧ (∀ j, rD25 j → D j ∨ M j ∨ w.heap.size ≤ j) ∧ V.FrE M w w' := by
 have hM := FX.lm
 have hk0 := FX.lm _ FX.mk'
 have hD := FX.ld
 have hMD := FX.dj
 have hMk := FX.mk'
 have HG := V.FrE.refl M w
 refine V.enter (n := 57) Try.func13 rfl rfl (by decide) rfl ?_
 refine V.sr ?_
 refine V.box rfl rfl rfl rfl ?_
 rintro k1 w3 s5 s6 G4 Fk2
 have z7 := V.Fr.size G4
 try simp only [V.cellsL, V.spliceL] at Fk2
 refine V.ru 1 ?_
 refine V.nt ?_
 refine V.seq ?_
 refine V.block ?_
 refine V.sr ?_
 refine V.loadO T_ok Fk2 rfl rfl rfl rfl rfl ?_
 refine V.ru 2 ?_
 refine V.nt ?_
 refine V.condN rfl rfl ?_
 refine V.seq ?_
 replace FX := FX.gr G4
 obtain ⟨kl_8, g_8, B_8, SO_8, SC_8, ad_8, cd_8, ao_8, co_8, ac_8, cc_8, ch_8, hP_8, hc_8, Fk_8, FL_8, FQ_8⟩ := FX.ex
 obtain ⟨hid_8, hrg_8, hte_8, hco_8, hx0_8, hx1_8, hx2_8, hm0_8, hm1_8, hm2_8, hda_8⟩ := FX.ok
 have nk_8 := hP_8.nk
 have nl_8 := hP_8.nl
 have ng_8 := hP_8.ng
 have kL_8 := hP_8.kL
 have lq_8 := hP_8.lq
 have bd_8 := hP_8.d
 obtain ⟨mk_8, ml_8, mg_8⟩ := hP_8.m
 have hA_8 := hP_8.a
 have lm_8 := hP_8.lm
 have ld_8 := hP_8.ld
 have hLo_8 := FL_8.ok
 have hLd_8 := FL_8.dl
 have hLg_8 := FL_8.gl
 have hLk_8 := FL_8.lt
 have hLb_8 := FL_8.bl
 have hkl_8 := Fk_8.lt
 refine V.region ?_
 refine V.loadO T_ok Fk2 rfl rfl rfl rfl rfl ?_
 refine V.ru 2 ?_
 refine V.loadO T_ok Fk_8 rfl rfl rfl rfl rfl ?_
 refine V.ru 2 ?_
 refine V.nt ?_
 refine V.condT rfl (fun h3 => ?_) (fun h3 => ?_)
 ·
  try replace h3 := V.dec h3
  try simp only [V.mk] at h3
  
  refine V.sr ?_
  refine V.ru 1 ?_
  refine V.nt ?_
  refine V.ret ?_
  refine V.bR ?_
  refine V.tR ?_
  rw [show electV d = d from if_pos (.inl h3), show electE d = 223 from if_pos h3]
  refine V.done rfl ?_
  replace HG := HG.grow G4
  exact ⟨_, _, (by first | rfl | simp only [List.length_set]), FX, (by intro j h; (try dsimp only [V.In] at *); grind), (by intro j h; (try dsimp only [V.In] at *); grind), HG⟩
 ·
  try replace h3 := V.dec h3
  try simp only [V.mk] at h3
  
  refine V.sr ?_
  refine V.loadO T_ok Fk2 rfl rfl rfl rfl rfl ?_
  refine V.ru 2 ?_
  refine V.loadO T_ok Fk_8 rfl rfl rfl rfl rfl ?_
  refine V.ru 2 ?_
  refine V.nt ?_
  refine V.condT rfl (fun h5 => ?_) (fun h5 => ?_)
  ·
   try replace h5 := V.dec h5
   try simp only [V.mk] at h5
   
   refine V.sr ?_
   refine V.ru 1 ?_
   refine V.nt ?_
   refine V.ret ?_
   refine V.bR ?_
   refine V.tR ?_
   rw [show electV d = d from if_pos (.inr h5), show electE d = 1 from (if_neg h3).trans (if_pos h5)]
   refine V.done rfl ?_
   replace HG := HG.grow G4
   exact ⟨_, _, (by first | rfl | simp only [List.length_set]), FX, (by intro j h; (try dsimp only [V.In] at *); grind), (by intro j h; (try dsimp only [V.In] at *); grind), HG⟩
  ·
   try replace h5 := V.dec h5
   try simp only [V.mk] at h5
   
   refine V.skip ?_
   refine V.bN ?_
   refine V.tN ?_
   refine V.seq ?_
   refine V.drawT 6 mixed (by kernel_rfl) ?_
   rintro w9 G10 s11
   have z12 := V.Fr.size G10
   replace Fk2 := Fk2.gr G10
   refine V.qloadO T_ok Fk2 rfl rfl rfl rfl rfl ?_
   refine V.qloadO T_ok Fk2 rfl rfl rfl rfl rfl ?_
   refine V.qrun T_ok 2 rfl ?_
   replace Fk_8 := Fk_8.gr G10
   refine V.qloadO T_ok Fk_8 rfl rfl rfl rfl rfl ?_
   refine V.qaddN rfl rfl rfl rfl rfl V.lenA V.lenA ?_
   refine V.qnil ?_
   replace FX := FX.gr G10
   refine V.call (turn_spec (te := (d.te + 1)) (ro := 1) (le := (-1)) FX (by omega)) rfl rfl rfl ?_
   rintro _ w14 ⟨rfl, F13, G15⟩
   have z16 := V.FrE.size G15
   refine V.nt ?_
   refine V.seq ?_
   obtain ⟨kl_17, g_17, B_17, SO_17, SC_17, ad_17, cd_17, ao_17, co_17, ac_17, cc_17, ch_17, hP_17, hc_17, Fk_17, FL_17, FQ_17⟩ := F13.ex
   obtain ⟨hid_17, hrg_17, hte_17, hco_17, hx0_17, hx1_17, hx2_17, hm0_17, hm1_17, hm2_17, hda_17⟩ := F13.ok
   try dsimp only [turnV] at hid_17 hrg_17 hte_17 hco_17 hx0_17 hx1_17 hx2_17 hm0_17 hm1_17 hm2_17 hda_17
   have nk_17 := hP_17.nk
   have nl_17 := hP_17.nl
   have ng_17 := hP_17.ng
   have kL_17 := hP_17.kL
   have lq_17 := hP_17.lq
   have bd_17 := hP_17.d
   obtain ⟨mk_17, ml_17, mg_17⟩ := hP_17.m
   have hA_17 := hP_17.a
   have lm_17 := hP_17.lm
   have ld_17 := hP_17.ld
   have hLo_17 := FL_17.ok
   have hLd_17 := FL_17.dl
   have hLg_17 := FL_17.gl
   have hLk_17 := FL_17.lt
   have hLb_17 := FL_17.bl
   have hkl_17 := Fk_17.lt
   clear F13
   replace Fk2 := Fk2.mvE G15 (by (try dsimp only [V.In]); first | omega | grind)
   replace HG := HG.grow (G4.trans G10)
   replace HG := HG.stepE G15 (by intro i h; (try dsimp only [V.In] at h ⊢); first | omega | grind)
   refine V.drawM (fun w_ => V.Fr [k] w14 w_ ∧ V.At w_ k 0 [.int .i64 ((turnV d (d.te + 1) (1 : Int) (-1)).id)]) (fun i => Nat.beq i 9 || Nat.beq i 12) (fun _ g_ => ⟨g_.mono (by simp), V.Cells.atq (Fk_17.gr g_) 0 1 rfl⟩) mixed (by kernel_rfl) (by kernel_rfl) ?_
   refine V.mloadO T_ok (fun w' g_ => V.Cells.mv1 Fk2 g_.1 (by omega)) rfl rfl rfl rfl rfl rfl ?_
   refine V.mloadO T_ok (fun w' g_ => V.Cells.mv1 Fk2 g_.1 (by omega)) rfl rfl rfl rfl rfl rfl ?_
   refine V.mloadO T_ok (fun w' g_ => V.Cells.mv1 Fk2 g_.1 (by omega)) rfl rfl rfl rfl rfl rfl ?_
   refine V.mrun T_ok 2 rfl rfl ?_
   refine V.mloadA T_ok (o0 := 0) (off := 0) (fun w_ g_ => g_.2) rfl rfl rfl rfl rfl rfl ?_
   refine V.mstep rfl rfl rfl (fun _ _ => V.buildA0_run T_ok zero98 rfl rfl _) ?_
   refine V.mrun T_ok 2 rfl rfl ?_
   refine V.mstoreC (fun _ _ h_ => Fk_17.gr h_) (fun _ _ a _ b hc => ⟨V.Fr.dup a.1 b, V.Cells.atq hc 0 1 rfl⟩) rfl rfl rfl rfl sz3 rfl rfl rfl rfl rfl ?_
   refine V.mrun T_ok 2 rfl rfl ?_
   refine V.mstoreC (fun _ _ h_ => by obtain ⟨_, _, _, _, h2_⟩ := h_; exact h2_) (fun _ _ a _ b hc => ⟨V.Fr.dup a.1 b, V.Cells.atq hc 0 1 rfl⟩) rfl rfl rfl rfl sz98 rfl rfl rfl rfl rfl ?_
   refine V.mnil ?_
   rintro w18 - ⟨w22, ⟨w20, g0_, G21, -, -⟩, G23, -, Fk19⟩
   have z24 := V.Fr.size g0_
   clear Fk_17
   have z25 := V.Fr.size G21
   have z26 := V.Fr.size G23
   have Fk_17 := Fk19; clear Fk19
   try simp only [V.spliceL, V.cellsL] at Fk_17
   refine V.tN ?_
   refine V.seq ?_
   rcases (show d.id = 0 ∨ d.id = 1 ∨ d.id = 2 by have := hid_17; show d.id = 0 ∨ d.id = 1 ∨ d.id = 2; change 0 ≤ d.id ∧ d.id ≤ 2 at this; omega) with hcs | hcs | hcs
   ·
    refine V.drawT 8 mixed (by kernel_rfl) ?_
    rintro w27 G28 s29
    have z30 := V.Fr.size G28
    replace Fk2 := Fk2.gr g0_
    replace Fk2 := Fk2.ma G21
    replace Fk2 := Fk2.ma G23
    replace Fk2 := Fk2.gr G28
    refine V.qloadO T_ok Fk2 rfl rfl rfl rfl rfl ?_
    refine V.qloadO T_ok Fk2 rfl rfl rfl rfl rfl ?_
    refine V.qrun T_ok 2 rfl ?_
    replace Fk_17 := Fk_17.gr G28
    refine V.qloadO T_ok Fk_17 rfl rfl rfl rfl rfl ?_
    rw [show (turnV d (d.te + 1) 1 (-1)).id = 0 from hcs]
    refine V.qrun T_ok 2 rfl ?_
    refine V.qelemP T_ok rfl rfl rfl rfl rfl rfl (by first | omega | decide) (by first | omega | decide) ?_
    refine V.qnil ?_
    refine V.storeO Fk_17 rfl rfl rfl rfl sz4 rfl rfl rfl rfl ?_
    rintro w31 G32 z34 Fs33
    clear Fk_17
    have z35 := V.Fr.size G32
    have Fk_17 := Fs33; clear Fs33
    simp only [V.spliceL, V.cellsL] at Fk_17
    refine V.nt ?_
    refine V.seq ?_
    replace FL_17 := FL_17.gr g0_
    replace FL_17 := FL_17.mv1 G21 (by (try dsimp only [V.In]); first | omega | grind)
    replace FL_17 := FL_17.mv1 G23 (by (try dsimp only [V.In]); first | omega | grind)
    replace FL_17 := FL_17.gr G28
    replace FL_17 := FL_17.mv1 G32 (by (try dsimp only [V.In]); first | omega | grind)
    replace FQ_17 := FQ_17.gr g0_
    replace FQ_17 := FQ_17.mv1 G21 (by (try dsimp only [V.In]); first | omega | grind)
    replace FQ_17 := FQ_17.mv1 G23 (by (try dsimp only [V.In]); first | omega | grind)
    replace FQ_17 := FQ_17.gr G28
    replace FQ_17 := FQ_17.mv1 G32 (by (try dsimp only [V.In]); first | omega | grind)
    have F36 : Nd w31 k M D ({ turnV d (d.te + 1) 1 (-1) with vo := d.id, v0 := true, v1 := false, v2 := false }) := ⟨⟨hid_17, hrg_17, hte_17, hco_17, hx0_17, hx1_17, hx2_17, hm0_17, hm1_17, hm2_17, hda_17⟩, _, _, _, _, _, _, _, _, _, _, _, _, (hP_17.up (by omega)), hc_17, Fk_17, FL_17, FQ_17⟩
    clear Fk_17 FL_17 FQ_17
    have hr37 : { turnV d (d.te + 1) 1 (-1) with vo := d.id, v0 := true, v1 := false, v2 := false } = standV d := (by unfold standV; simp [hcs])
    rw [hr37] at F36
    clear hr37
    obtain ⟨kl_38, g_38, B_38, SO_38, SC_38, ad_38, cd_38, ao_38, co_38, ac_38, cc_38, ch_38, hP_38, hc_38, Fk_38, FL_38, FQ_38⟩ := F36.ex
    obtain ⟨hid_38, hrg_38, hte_38, hco_38, hx0_38, hx1_38, hx2_38, hm0_38, hm1_38, hm2_38, hda_38⟩ := F36.ok
    have nk_38 := hP_38.nk
    have nl_38 := hP_38.nl
    have ng_38 := hP_38.ng
    have kL_38 := hP_38.kL
    have lq_38 := hP_38.lq
    have bd_38 := hP_38.d
    obtain ⟨mk_38, ml_38, mg_38⟩ := hP_38.m
    have hA_38 := hP_38.a
    have lm_38 := hP_38.lm
    have ld_38 := hP_38.ld
    have hLo_38 := FL_38.ok
    have hLd_38 := FL_38.dl
    have hLg_38 := FL_38.gl
    have hLk_38 := FL_38.lt
    have hLb_38 := FL_38.bl
    have hkl_38 := Fk_38.lt
    refine V.region ?_
    replace Fk2 := Fk2.ma G32
    refine V.loadO T_ok Fk2 rfl rfl rfl rfl rfl ?_
    refine V.ru 2 ?_
    refine V.loadO T_ok Fk_38 rfl rfl rfl rfl rfl ?_
    refine V.call (last_spec FL_38) rfl rfl rfl ?_
    rintro _ w39 ⟨rfl, G40⟩
    have z41 := V.Fr.size G40
    refine V.ru 3 ?_
    refine V.alloc zero3 rfl rfl rfl ?_
    rintro k42 w44 s46 s47 G45 Fk43
    have z48 := V.Fr.size G45
    try simp only [V.cellsL, V.spliceL] at Fk43
    refine V.alloc zero3 rfl rfl rfl ?_
    rintro k49 w51 s53 s54 G52 Fk50
    have z55 := V.Fr.size G52
    try simp only [V.cellsL, V.spliceL] at Fk50
    replace Fk43 := Fk43.gr G52
    refine V.storeO Fk43 rfl rfl rfl rfl sz3 rfl rfl rfl rfl ?_
    rintro w56 G57 z59 Fs58
    clear Fk43
    have z60 := V.Fr.size G57
    have Fk43 := Fs58; clear Fs58
    simp only [V.spliceL, V.cellsL] at Fk43
    replace Fk50 := Fk50.ma G57
    refine V.storeO Fk50 rfl rfl rfl rfl sz3 rfl rfl rfl rfl ?_
    rintro w61 G62 z64 Fs63
    clear Fk50
    have z65 := V.Fr.size G62
    have Fk50 := Fs63; clear Fs63
    simp only [V.spliceL, V.cellsL] at Fk50
    refine V.nt ?_
    refine V.sr ?_
    replace Fk2 := Fk2.gr (G40.trans (G45.trans G52))
    replace Fk2 := Fk2.ma G57
    replace Fk2 := Fk2.ma G62
    refine V.loadO T_ok Fk2 rfl rfl rfl rfl rfl ?_
    refine V.ru 1 ?_
    replace F36 := F36.gr (G40.trans (G45.trans G52))
    replace F36 := F36.mv1 G57 (by (try dsimp only [V.In]); first | omega | grind)
    replace F36 := F36.mv1 G62 (by (try dsimp only [V.In]); first | omega | grind)
    replace Fk43 := Fk43.ma G62
    refine V.call (oth_elect F36 (Fb := Fk2) (Fi := Fk43) (Ft := Fk50) (by intro e; have := hM _ e; omega) (by intro e; have := hM _ e; omega) (by intro e; have := hM _ e; omega) (by first | assumption | omega)) rfl rfl rfl ?_
    rintro _ w71 ⟨M66, D67, rfl, F68, h69, h70, G72⟩
    have z73 := V.FrE.size G72
    refine V.nt ?_
    refine V.sr ?_
    refine V.ru 1 ?_
    refine V.nt ?_
    refine V.ret ?_
    rw [show electV d = othV (fun e kk => askV e kk (lastI ((standV d).L)) (lastT ((standV d).L))) (standV d) 3 from if_neg (by omega), show electE d = 0 from (if_neg h3).trans (if_neg (by omega))]
    refine V.done rfl ?_
    replace HG := HG.grow g0_
    replace HG := HG.n1 G21 (by first | (refine Or.inr ?_; omega) | (refine Or.inl ?_; first | assumption | (dsimp only; grind)) | grind)
    replace HG := HG.n1 G23 (by first | (refine Or.inr ?_; omega) | (refine Or.inl ?_; first | assumption | (dsimp only; grind)) | grind)
    replace HG := HG.grow G28
    replace HG := HG.n1 G32 (by first | (refine Or.inr ?_; omega) | (refine Or.inl ?_; first | assumption | (dsimp only; grind)) | grind)
    replace HG := HG.grow (G40.trans (G45.trans G52))
    replace HG := HG.n1 G57 (by first | (refine Or.inr ?_; omega) | (refine Or.inl ?_; first | assumption | (dsimp only; grind)) | grind)
    replace HG := HG.n1 G62 (by first | (refine Or.inr ?_; omega) | (refine Or.inl ?_; first | assumption | (dsimp only; grind)) | grind)
    replace HG := HG.stepE G72 (by intro i h; (try dsimp only [V.In] at h ⊢); first | omega | grind)
    exact ⟨_, _, (by first | rfl | simp only [List.length_set]), F68, (by intro j h; (try dsimp only [V.In] at *); grind), (by intro j h; (try dsimp only [V.In] at *); grind), HG⟩
   ·
    refine V.drawT 8 mixed (by kernel_rfl) ?_
    rintro w74 G75 s76
    have z77 := V.Fr.size G75
    replace Fk2 := Fk2.gr g0_
    replace Fk2 := Fk2.ma G21
    replace Fk2 := Fk2.ma G23
    replace Fk2 := Fk2.gr G75
    refine V.qloadO T_ok Fk2 rfl rfl rfl rfl rfl ?_
    refine V.qloadO T_ok Fk2 rfl rfl rfl rfl rfl ?_
    refine V.qrun T_ok 2 rfl ?_
    replace Fk_17 := Fk_17.gr G75
    refine V.qloadO T_ok Fk_17 rfl rfl rfl rfl rfl ?_
    rw [show (turnV d (d.te + 1) 1 (-1)).id = 1 from hcs]
    refine V.qrun T_ok 2 rfl ?_
    refine V.qelemP T_ok rfl rfl rfl rfl rfl rfl (by first | omega | decide) (by first | omega | decide) ?_
    refine V.qnil ?_
    refine V.storeO Fk_17 rfl rfl rfl rfl sz4 rfl rfl rfl rfl ?_
    rintro w78 G79 z81 Fs80
    clear Fk_17
    have z82 := V.Fr.size G79
    have Fk_17 := Fs80; clear Fs80
    simp only [V.spliceL, V.cellsL] at Fk_17
    refine V.nt ?_
    refine V.seq ?_
    replace FL_17 := FL_17.gr g0_
    replace FL_17 := FL_17.mv1 G21 (by (try dsimp only [V.In]); first | omega | grind)
    replace FL_17 := FL_17.mv1 G23 (by (try dsimp only [V.In]); first | omega | grind)
    replace FL_17 := FL_17.gr G75
    replace FL_17 := FL_17.mv1 G79 (by (try dsimp only [V.In]); first | omega | grind)
    replace FQ_17 := FQ_17.gr g0_
    replace FQ_17 := FQ_17.mv1 G21 (by (try dsimp only [V.In]); first | omega | grind)
    replace FQ_17 := FQ_17.mv1 G23 (by (try dsimp only [V.In]); first | omega | grind)
    replace FQ_17 := FQ_17.gr G75
    replace FQ_17 := FQ_17.mv1 G79 (by (try dsimp only [V.In]); first | omega | grind)
    have F83 : Nd w78 k M D ({ turnV d (d.te + 1) 1 (-1) with vo := d.id, v0 := false, v1 := true, v2 := false }) := ⟨⟨hid_17, hrg_17, hte_17, hco_17, hx0_17, hx1_17, hx2_17, hm0_17, hm1_17, hm2_17, hda_17⟩, _, _, _, _, _, _, _, _, _, _, _, _, (hP_17.up (by omega)), hc_17, Fk_17, FL_17, FQ_17⟩
    clear Fk_17 FL_17 FQ_17
    have hr84 : { turnV d (d.te + 1) 1 (-1) with vo := d.id, v0 := false, v1 := true, v2 := false } = standV d := (by unfold standV; simp [hcs])
    rw [hr84] at F83
    clear hr84
    obtain ⟨kl_85, g_85, B_85, SO_85, SC_85, ad_85, cd_85, ao_85, co_85, ac_85, cc_85, ch_85, hP_85, hc_85, Fk_85, FL_85, FQ_85⟩ := F83.ex
    obtain ⟨hid_85, hrg_85, hte_85, hco_85, hx0_85, hx1_85, hx2_85, hm0_85, hm1_85, hm2_85, hda_85⟩ := F83.ok
    have nk_85 := hP_85.nk
    have nl_85 := hP_85.nl
    have ng_85 := hP_85.ng
    have kL_85 := hP_85.kL
    have lq_85 := hP_85.lq
    have bd_85 := hP_85.d
    obtain ⟨mk_85, ml_85, mg_85⟩ := hP_85.m
    have hA_85 := hP_85.a
    have lm_85 := hP_85.lm
    have ld_85 := hP_85.ld
    have hLo_85 := FL_85.ok
    have hLd_85 := FL_85.dl
    have hLg_85 := FL_85.gl
    have hLk_85 := FL_85.lt
    have hLb_85 := FL_85.bl
    have hkl_85 := Fk_85.lt
    refine V.region ?_
    replace Fk2 := Fk2.ma G79
    refine V.loadO T_ok Fk2 rfl rfl rfl rfl rfl ?_
    refine V.ru 2 ?_
    refine V.loadO T_ok Fk_85 rfl rfl rfl rfl rfl ?_
    refine V.call (last_spec FL_85) rfl rfl rfl ?_
    rintro _ w86 ⟨rfl, G87⟩
    have z88 := V.Fr.size G87
    refine V.ru 3 ?_
    refine V.alloc zero3 rfl rfl rfl ?_
    rintro k89 w91 s93 s94 G92 Fk90
    have z95 := V.Fr.size G92
    try simp only [V.cellsL, V.spliceL] at Fk90
    refine V.alloc zero3 rfl rfl rfl ?_
    rintro k96 w98 s100 s101 G99 Fk97
    have z102 := V.Fr.size G99
    try simp only [V.cellsL, V.spliceL] at Fk97
    replace Fk90 := Fk90.gr G99
    refine V.storeO Fk90 rfl rfl rfl rfl sz3 rfl rfl rfl rfl ?_
    rintro w103 G104 z106 Fs105
    clear Fk90
    have z107 := V.Fr.size G104
    have Fk90 := Fs105; clear Fs105
    simp only [V.spliceL, V.cellsL] at Fk90
    replace Fk97 := Fk97.ma G104
    refine V.storeO Fk97 rfl rfl rfl rfl sz3 rfl rfl rfl rfl ?_
    rintro w108 G109 z111 Fs110
    clear Fk97
    have z112 := V.Fr.size G109
    have Fk97 := Fs110; clear Fs110
    simp only [V.spliceL, V.cellsL] at Fk97
    refine V.nt ?_
    refine V.sr ?_
    replace Fk2 := Fk2.gr (G87.trans (G92.trans G99))
    replace Fk2 := Fk2.ma G104
    replace Fk2 := Fk2.ma G109
    refine V.loadO T_ok Fk2 rfl rfl rfl rfl rfl ?_
    refine V.ru 1 ?_
    replace F83 := F83.gr (G87.trans (G92.trans G99))
    replace F83 := F83.mv1 G104 (by (try dsimp only [V.In]); first | omega | grind)
    replace F83 := F83.mv1 G109 (by (try dsimp only [V.In]); first | omega | grind)
    replace Fk90 := Fk90.ma G109
    refine V.call (oth_elect F83 (Fb := Fk2) (Fi := Fk90) (Ft := Fk97) (by intro e; have := hM _ e; omega) (by intro e; have := hM _ e; omega) (by intro e; have := hM _ e; omega) (by first | assumption | omega)) rfl rfl rfl ?_
    rintro _ w118 ⟨M113, D114, rfl, F115, h116, h117, G119⟩
    have z120 := V.FrE.size G119
    refine V.nt ?_
    refine V.sr ?_
    refine V.ru 1 ?_
    refine V.nt ?_
    refine V.ret ?_
    rw [show electV d = othV (fun e kk => askV e kk (lastI ((standV d).L)) (lastT ((standV d).L))) (standV d) 3 from if_neg (by omega), show electE d = 0 from (if_neg h3).trans (if_neg (by omega))]
    refine V.done rfl ?_
    replace HG := HG.grow g0_
    replace HG := HG.n1 G21 (by first | (refine Or.inr ?_; omega) | (refine Or.inl ?_; first | assumption | (dsimp only; grind)) | grind)
    replace HG := HG.n1 G23 (by first | (refine Or.inr ?_; omega) | (refine Or.inl ?_; first | assumption | (dsimp only; grind)) | grind)
    replace HG := HG.grow G75
    replace HG := HG.n1 G79 (by first | (refine Or.inr ?_; omega) | (refine Or.inl ?_; first | assumption | (dsimp only; grind)) | grind)
    replace HG := HG.grow (G87.trans (G92.trans G99))
    replace HG := HG.n1 G104 (by first | (refine Or.inr ?_; omega) | (refine Or.inl ?_; first | assumption | (dsimp only; grind)) | grind)
    replace HG := HG.n1 G109 (by first | (refine Or.inr ?_; omega) | (refine Or.inl ?_; first | assumption | (dsimp only; grind)) | grind)
    replace HG := HG.stepE G119 (by intro i h; (try dsimp only [V.In] at h ⊢); first | omega | grind)
    exact ⟨_, _, (by first | rfl | simp only [List.length_set]), F115, (by intro j h; (try dsimp only [V.In] at *); grind), (by intro j h; (try dsimp only [V.In] at *); grind), HG⟩
   ·
    refine V.drawT 8 mixed (by kernel_rfl) ?_
    rintro w121 G122 s123
    have z124 := V.Fr.size G122
    replace Fk2 := Fk2.gr g0_
    replace Fk2 := Fk2.ma G21
    replace Fk2 := Fk2.ma G23
    replace Fk2 := Fk2.gr G122
    refine V.qloadO T_ok Fk2 rfl rfl rfl rfl rfl ?_
    refine V.qloadO T_ok Fk2 rfl rfl rfl rfl rfl ?_
    refine V.qrun T_ok 2 rfl ?_
    replace Fk_17 := Fk_17.gr G122
    refine V.qloadO T_ok Fk_17 rfl rfl rfl rfl rfl ?_
    rw [show (turnV d (d.te + 1) 1 (-1)).id = 2 from hcs]
    refine V.qrun T_ok 2 rfl ?_
    refine V.qelemP T_ok rfl rfl rfl rfl rfl rfl (by first | omega | decide) (by first | omega | decide) ?_
    refine V.qnil ?_
    refine V.storeO Fk_17 rfl rfl rfl rfl sz4 rfl rfl rfl rfl ?_
    rintro w125 G126 z128 Fs127
    clear Fk_17
    have z129 := V.Fr.size G126
    have Fk_17 := Fs127; clear Fs127
    simp only [V.spliceL, V.cellsL] at Fk_17
    refine V.nt ?_
    refine V.seq ?_
    replace FL_17 := FL_17.gr g0_
    replace FL_17 := FL_17.mv1 G21 (by (try dsimp only [V.In]); first | omega | grind)
    replace FL_17 := FL_17.mv1 G23 (by (try dsimp only [V.In]); first | omega | grind)
    replace FL_17 := FL_17.gr G122
    replace FL_17 := FL_17.mv1 G126 (by (try dsimp only [V.In]); first | omega | grind)
    replace FQ_17 := FQ_17.gr g0_
    replace FQ_17 := FQ_17.mv1 G21 (by (try dsimp only [V.In]); first | omega | grind)
    replace FQ_17 := FQ_17.mv1 G23 (by (try dsimp only [V.In]); first | omega | grind)
    replace FQ_17 := FQ_17.gr G122
    replace FQ_17 := FQ_17.mv1 G126 (by (try dsimp only [V.In]); first | omega | grind)
    have F130 : Nd w125 k M D ({ turnV d (d.te + 1) 1 (-1) with vo := d.id, v0 := false, v1 := false, v2 := true }) := ⟨⟨hid_17, hrg_17, hte_17, hco_17, hx0_17, hx1_17, hx2_17, hm0_17, hm1_17, hm2_17, hda_17⟩, _, _, _, _, _, _, _, _, _, _, _, _, (hP_17.up (by omega)), hc_17, Fk_17, FL_17, FQ_17⟩
    clear Fk_17 FL_17 FQ_17
    have hr131 : { turnV d (d.te + 1) 1 (-1) with vo := d.id, v0 := false, v1 := false, v2 := true } = standV d := (by unfold standV; simp [hcs])
    rw [hr131] at F130
    clear hr131
    obtain ⟨kl_132, g_132, B_132, SO_132, SC_132, ad_132, cd_132, ao_132, co_132, ac_132, cc_132, ch_132, hP_132, hc_132, Fk_132, FL_132, FQ_132⟩ := F130.ex
    obtain ⟨hid_132, hrg_132, hte_132, hco_132, hx0_132, hx1_132, hx2_132, hm0_132, hm1_132, hm2_132, hda_132⟩ := F130.ok
    have nk_132 := hP_132.nk
    have nl_132 := hP_132.nl
    have ng_132 := hP_132.ng
    have kL_132 := hP_132.kL
    have lq_132 := hP_132.lq
    have bd_132 := hP_132.d
    obtain ⟨mk_132, ml_132, mg_132⟩ := hP_132.m
    have hA_132 := hP_132.a
    have lm_132 := hP_132.lm
    have ld_132 := hP_132.ld
    have hLo_132 := FL_132.ok
    have hLd_132 := FL_132.dl
    have hLg_132 := FL_132.gl
    have hLk_132 := FL_132.lt
    have hLb_132 := FL_132.bl
    have hkl_132 := Fk_132.lt
    refine V.region ?_
    replace Fk2 := Fk2.ma G126
    refine V.loadO T_ok Fk2 rfl rfl rfl rfl rfl ?_
    refine V.ru 2 ?_
    refine V.loadO T_ok Fk_132 rfl rfl rfl rfl rfl ?_
    refine V.call (last_spec FL_132) rfl rfl rfl ?_
    rintro _ w133 ⟨rfl, G134⟩
    have z135 := V.Fr.size G134
    refine V.ru 3 ?_
    refine V.alloc zero3 rfl rfl rfl ?_
    rintro k136 w138 s140 s141 G139 Fk137
    have z142 := V.Fr.size G139
    try simp only [V.cellsL, V.spliceL] at Fk137
    refine V.alloc zero3 rfl rfl rfl ?_
    rintro k143 w145 s147 s148 G146 Fk144
    have z149 := V.Fr.size G146
    try simp only [V.cellsL, V.spliceL] at Fk144
    replace Fk137 := Fk137.gr G146
    refine V.storeO Fk137 rfl rfl rfl rfl sz3 rfl rfl rfl rfl ?_
    rintro w150 G151 z153 Fs152
    clear Fk137
    have z154 := V.Fr.size G151
    have Fk137 := Fs152; clear Fs152
    simp only [V.spliceL, V.cellsL] at Fk137
    replace Fk144 := Fk144.ma G151
    refine V.storeO Fk144 rfl rfl rfl rfl sz3 rfl rfl rfl rfl ?_
    rintro w155 G156 z158 Fs157
    clear Fk144
    have z159 := V.Fr.size G156
    have Fk144 := Fs157; clear Fs157
    simp only [V.spliceL, V.cellsL] at Fk144
    refine V.nt ?_
    refine V.sr ?_
    replace Fk2 := Fk2.gr (G134.trans (G139.trans G146))
    replace Fk2 := Fk2.ma G151
    replace Fk2 := Fk2.ma G156
    refine V.loadO T_ok Fk2 rfl rfl rfl rfl rfl ?_
    refine V.ru 1 ?_
    replace F130 := F130.gr (G134.trans (G139.trans G146))
    replace F130 := F130.mv1 G151 (by (try dsimp only [V.In]); first | omega | grind)
    replace F130 := F130.mv1 G156 (by (try dsimp only [V.In]); first | omega | grind)
    replace Fk137 := Fk137.ma G156
    refine V.call (oth_elect F130 (Fb := Fk2) (Fi := Fk137) (Ft := Fk144) (by intro e; have := hM _ e; omega) (by intro e; have := hM _ e; omega) (by intro e; have := hM _ e; omega) (by first | assumption | omega)) rfl rfl rfl ?_
    rintro _ w165 ⟨M160, D161, rfl, F162, h163, h164, G166⟩
    have z167 := V.FrE.size G166
    refine V.nt ?_
    refine V.sr ?_
    refine V.ru 1 ?_
    refine V.nt ?_
    refine V.ret ?_
    rw [show electV d = othV (fun e kk => askV e kk (lastI ((standV d).L)) (lastT ((standV d).L))) (standV d) 3 from if_neg (by omega), show electE d = 0 from (if_neg h3).trans (if_neg (by omega))]
    refine V.done rfl ?_
    replace HG := HG.grow g0_
    replace HG := HG.n1 G21 (by first | (refine Or.inr ?_; omega) | (refine Or.inl ?_; first | assumption | (dsimp only; grind)) | grind)
    replace HG := HG.n1 G23 (by first | (refine Or.inr ?_; omega) | (refine Or.inl ?_; first | assumption | (dsimp only; grind)) | grind)
    replace HG := HG.grow G122
    replace HG := HG.n1 G126 (by first | (refine Or.inr ?_; omega) | (refine Or.inl ?_; first | assumption | (dsimp only; grind)) | grind)
    replace HG := HG.grow (G134.trans (G139.trans G146))
    replace HG := HG.n1 G151 (by first | (refine Or.inr ?_; omega) | (refine Or.inl ?_; first | assumption | (dsimp only; grind)) | grind)
    replace HG := HG.n1 G156 (by first | (refine Or.inr ?_; omega) | (refine Or.inl ?_; first | assumption | (dsimp only; grind)) | grind)
    replace HG := HG.stepE G166 (by intro i h; (try dsimp only [V.In] at h ⊢); first | omega | grind)
    exact ⟨_, _, (by first | rfl | simp only [List.length_set]), F162, (by intro j h; (try dsimp only [V.In] at *); grind), (by intro j h; (try dsimp only [V.In] at *); grind), HG⟩

end Go.Proofs.Ytphohfpbdkgnaaa
