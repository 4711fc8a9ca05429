/- Proved here: walks: what functions of this seat's program return and what they leave of memory, each as a contract. Conditions: stated at each theorem. -/
import Derived.Test.YtphohfpbdkgnaaaMraft3
namespace Go.Proofs.Ytphohfpbdkgnaaa
set_option linter.unusedVariables false
set_option linter.unusedSimpArgs false
open Go
open V (Bytes Meets Env Sl Own Gr Fr Cells S)
set_option maxHeartbeats 4000000 in
set_option maxRecDepth 10000 in
theorem rlog_spec {w : World} {k : Nat} {M D : Nat → Prop} {d : NodeV} (FX : Nd w k M D d)   :
    Meets Try.prog 11 [.pointer (some ⟨k, 0, none⟩)] w fun r w' => ∃ (rk26 : Nat) (rg26 : Nat) (rB26 : Nat → Prop), r = .pointer (some ⟨rk26, 0, none⟩) ∧ (w.heap.size ≤ rk26 ∧ rk26 < w'.heap.size) ∧ Lg w' rk26 rg26 rB26 (d.L) ∧ w.heap.size ≤ rg26 ∧ (∀ j, rB26 j → D j ∨ M j ∨ w.heap.size ≤ j) ∧ Gr w w' := by
 have hM := FX.lm
 have hk0 := FX.lm _ FX.mk'
 have hD := FX.ld
 have hMD := FX.dj
 have hMk := FX.mk'
 have HG := V.Fr.refl [] w
 refine V.enter (n := 10) Try.func11 rfl rfl (by decide) rfl ?_
 refine V.sr ?_
 refine V.ru 1 ?_
 refine V.nt ?_
 refine V.seq ?_
 refine V.sr ?_
 refine V.ru 2 ?_
 refine V.nt ?_
 refine V.condN rfl rfl ?_
 refine V.skip ?_
 refine V.tN ?_
 refine V.seq ?_
 obtain ⟨kl_1, g_1, B_1, SO_1, SC_1, ad_1, cd_1, ao_1, co_1, ac_1, cc_1, ch_1, hP_1, hc_1, Fk_1, FL_1, FQ_1⟩ := FX.ex
 obtain ⟨hid_1, hrg_1, hte_1, hco_1, hx0_1, hx1_1, hx2_1, hm0_1, hm1_1, hm2_1, hda_1⟩ := FX.ok
 have nk_1 := hP_1.nk
 have nl_1 := hP_1.nl
 have ng_1 := hP_1.ng
 have kL_1 := hP_1.kL
 have lq_1 := hP_1.lq
 have bd_1 := hP_1.d
 obtain ⟨mk_1, ml_1, mg_1⟩ := hP_1.m
 have hA_1 := hP_1.a
 have lm_1 := hP_1.lm
 have ld_1 := hP_1.ld
 have hLo_1 := FL_1.ok
 have hLd_1 := FL_1.dl
 have hLg_1 := FL_1.gl
 have hLk_1 := FL_1.lt
 have hLb_1 := FL_1.bl
 have hkl_1 := Fk_1.lt
 refine V.region ?_
 refine V.ru 3 ?_
 refine V.loadO T_ok Fk_1 rfl rfl rfl rfl rfl ?_
 refine V.call (copy_spec FL_1) rfl rfl rfl ?_
 rintro _ w9 ⟨k2, g3, B4, rfl, ⟨h5l, h5u⟩, F6, h7, h8, G10⟩
 have z11 := V.Fr.size G10
 refine V.ru 1 ?_
 refine V.nt ?_
 refine V.ret ?_
 refine V.done rfl ?_
 replace HG := HG.grow G10
 exact ⟨k2, _, _, (by first | rfl | simp only [List.length_set]), ⟨by omega, by omega⟩, F6, (by omega), (by intro j h; grind), HG⟩

set_option maxHeartbeats 4000000 in
set_option maxRecDepth 10000 in
theorem rdata_spec {w : World} {k : Nat} {M D : Nat → Prop} {d : NodeV} (FX : Nd w k M D d)   :
    Meets Try.prog 15 [.pointer (some ⟨k, 0, none⟩)] w fun r w' => ∃ (ra27 : Option Addr) (rc27 : Nat), r = .slice ra27 d.da.length rc27 ∧ V.Row V.Cod.byte 5 w' V.None' w.heap.size w'.heap.size ra27 rc27 d.da ∧ Gr w w' := by
 have hM := FX.lm
 have hk0 := FX.lm _ FX.mk'
 have hD := FX.ld
 have hMD := FX.dj
 have hMk := FX.mk'
 have HG := V.Fr.refl [] w
 refine V.enter (n := 10) Try.func15 rfl rfl (by decide) rfl ?_
 refine V.sr ?_
 refine V.ru 1 ?_
 refine V.nt ?_
 refine V.seq ?_
 refine V.sr ?_
 refine V.ru 2 ?_
 refine V.nt ?_
 refine V.condN rfl rfl ?_
 refine V.skip ?_
 refine V.tN ?_
 refine V.seq ?_
 obtain ⟨kl_1, g_1, B_1, SO_1, SC_1, ad_1, cd_1, ao_1, co_1, ac_1, cc_1, ch_1, hP_1, hc_1, Fk_1, FL_1, FQ_1⟩ := FX.ex
 obtain ⟨hid_1, hrg_1, hte_1, hco_1, hx0_1, hx1_1, hx2_1, hm0_1, hm1_1, hm2_1, hda_1⟩ := FX.ok
 have nk_1 := hP_1.nk
 have nl_1 := hP_1.nl
 have ng_1 := hP_1.ng
 have kL_1 := hP_1.kL
 have lq_1 := hP_1.lq
 have bd_1 := hP_1.d
 obtain ⟨mk_1, ml_1, mg_1⟩ := hP_1.m
 have hA_1 := hP_1.a
 have lm_1 := hP_1.lm
 have ld_1 := hP_1.ld
 have hLo_1 := FL_1.ok
 have hLd_1 := FL_1.dl
 have hLg_1 := FL_1.gl
 have hLk_1 := FL_1.lt
 have hLb_1 := FL_1.bl
 have hkl_1 := Fk_1.lt
 have Fd_1 := FQ_1.d
 refine V.region ?_
 refine V.ru 3 ?_
 refine V.loadO T_ok Fk_1 rfl rfl rfl rfl rfl ?_
 refine V.call (clone_spec Fd_1 V.lenA) rfl rfl rfl ?_
 rintro _ w5 ⟨a2, c3, rfl, F4, G6⟩
 have z7 := V.Fr.size G6
 refine V.ru 1 ?_
 refine V.nt ?_
 refine V.ret ?_
 refine V.done rfl ?_
 replace HG := HG.grow G6
 exact ⟨a2, c3, (by first | rfl | simp only [List.length_set]), F4.re, HG⟩

theorem NdP.outN {k kl g : Nat} {B SO SC M D : Nat → Prop} {z : Nat} (h : NdP k kl g B SO SC M D z) : NdP k kl g B V.None' SC (fun j => M j ∧ ¬ SO j) D z :=
  ⟨h.a, ⟨⟨fun e => e, h.b.1.2⟩, ⟨fun e => e, h.b.2.1.2⟩, fun e => e, h.b.2.2.2⟩, fun j e => e.elim, ⟨⟨h.m.1, h.b.1.1⟩, ⟨h.m.2.1, h.b.2.1.1⟩, h.m.2.2, h.b.2.2.1⟩, fun j e => e.elim, fun j e => ⟨h.sc j e, fun e2 => h.c j e2 e⟩, h.d, fun j e => h.dj j e.1, fun j e => h.lm j e.1, h.ld⟩
def outV (d : NodeV) : NodeV := { d with out := [] }

set_option maxHeartbeats 4000000 in
set_option maxRecDepth 10000 in
theorem rout_spec {w : World} {k : Nat} {M D : Nat → Prop} {d : NodeV} (FX : Nd w k M D d)   :
    Meets Try.prog 17 [.pointer (some ⟨k, 0, none⟩)] w fun r w' => ∃ (ra28 : Option Addr) (rc28 : Nat) (rM28 : Nat → Prop) (rR28 : Nat → Prop), r = .slice ra28 d.out.length rc28 ∧ Sl V.Cod.rmsg w' rR28 ra28 rc28 d.out ∧ Nd w' k rM28 D (outV d) ∧ (∀ j, rM28 j → M j) ∧ (∀ j, rR28 j → (D j ∨ M j) ∧ ¬ rM28 j) ∧ V.FrE M w w' := by
 have hM := FX.lm
 have hk0 := FX.lm _ FX.mk'
 have hD := FX.ld
 have hMD := FX.dj
 have hMk := FX.mk'
 have HG := V.FrE.refl M w
 refine V.enter (n := 14) Try.func17 rfl rfl (by decide) rfl ?_
 refine V.sr ?_
 refine V.ru 1 ?_
 refine V.nt ?_
 refine V.seq ?_
 refine V.sr ?_
 refine V.ru 2 ?_
 refine V.nt ?_
 refine V.condN rfl rfl ?_
 refine V.skip ?_
 refine V.tN ?_
 refine V.seq ?_
 obtain ⟨kl_1, g_1, B_1, SO_1, SC_1, ad_1, cd_1, ao_1, co_1, ac_1, cc_1, ch_1, hP_1, hc_1, Fk_1, FL_1, FQ_1⟩ := FX.ex
 obtain ⟨hid_1, hrg_1, hte_1, hco_1, hx0_1, hx1_1, hx2_1, hm0_1, hm1_1, hm2_1, hda_1⟩ := FX.ok
 have nk_1 := hP_1.nk
 have nl_1 := hP_1.nl
 have ng_1 := hP_1.ng
 have kL_1 := hP_1.kL
 have lq_1 := hP_1.lq
 have bd_1 := hP_1.d
 obtain ⟨mk_1, ml_1, mg_1⟩ := hP_1.m
 have hA_1 := hP_1.a
 have lm_1 := hP_1.lm
 have ld_1 := hP_1.ld
 have hLo_1 := FL_1.ok
 have hLd_1 := FL_1.dl
 have hLg_1 := FL_1.gl
 have hLk_1 := FL_1.lt
 have hLb_1 := FL_1.bl
 have hkl_1 := Fk_1.lt
 clear FX
 obtain ⟨Fo_1, Fc_1, Fd_1⟩ := FQ_1
 have hso := hP_1.so
 refine V.region ?_
 refine V.ru 3 ?_
 refine V.loadO T_ok Fk_1 rfl rfl rfl rfl rfl ?_
 refine V.ru 1 ?_
 refine V.nt ?_
 refine V.sr ?_
 refine V.ru 3 ?_
 refine V.storeO Fk_1 rfl rfl rfl rfl sz68 rfl rfl rfl rfl ?_
 rintro w2 G3 z5 Fs4
 clear Fk_1
 have z6 := V.Fr.size G3
 have Fk_1 := Fs4; clear Fs4
 simp only [V.spliceL, V.cellsL] at Fk_1
 refine V.nt ?_
 refine V.sr ?_
 refine V.ru 2 ?_
 refine V.nt ?_
 refine V.ret ?_
 replace FL_1 := FL_1.mv1 G3 (by (try dsimp only [V.In]); first | omega | grind)
 replace Fc_1 := Fc_1.mv1 G3 (by (try dsimp only [V.In]); first | omega | grind)
 replace Fd_1 := Fd_1.mv1 G3 (by (try dsimp only [V.In]); first | omega | grind)
 have F9_ : Nd w2 k (fun j => M j ∧ ¬ SO_1 j) D (outV d) := ⟨⟨hid_1, hrg_1, hte_1, hco_1, hx0_1, hx1_1, hx2_1, hm0_1, hm1_1, hm2_1, hda_1⟩, _, _, _, _, _, _, _, _, _, _, _, _, hP_1.outN.up (by omega), hc_1, Fk_1, FL_1, ⟨V.RowE.nil, Fc_1, Fd_1⟩⟩
 replace Fo_1 := Fo_1.mv1 G3 (by (try dsimp only [V.In]); first | omega | grind)
 have FS9 := Fo_1.slB
 replace HG := HG.n1 G3 (by first | (refine Or.inr ?_; omega) | (refine Or.inl ?_; first | assumption | (dsimp only; grind)) | grind)
 refine V.done rfl ?_
 exact ⟨_, _, _, _, rfl, FS9, F9_, fun j h => h.1, fun j h => ⟨h.imp id (hso j), fun e => h.elim (fun h => hMD j e.1 h) e.2⟩, HG⟩

set_option maxHeartbeats 4000000 in
set_option maxRecDepth 10000 in
theorem rnew_spec {w : World} {id rg te vo : Int} {kl g : Nat} {B : Nat → Prop} {dl : LogV} (FL : Lg w kl g B dl) {D_x : Nat → Prop} {c_x : Nat} {a_x : Option Addr} {x : List UInt8} (F_x : Bytes w D_x a_x c_x x)  (hid : 0 ≤ id ∧ id ≤ 2) (hrg : 0 ≤ rg ∧ rg ≤ 3) (hte : 0 ≤ te ∧ te ≤ 1099511627776) (hvo : -1 ≤ vo ∧ vo ≤ 2) (hx : x.length ≤ 1000000) :
    Meets Try.prog 9 [.int .i64 id, .int .i64 rg, .int .i64 te, .int .i64 vo, .pointer (some ⟨kl, 0, none⟩), .slice a_x x.length c_x] w fun r w' => ∃ (rk29 : Nat) (rM29 : Nat → Prop) (rD29 : Nat → Prop), r = .tuple #[.pointer (some ⟨rk29, 0, none⟩), .int .i64 0] ∧ (w.heap.size ≤ rk29 ∧ rk29 < w'.heap.size) ∧ Nd w' rk29 rM29 rD29 (⟨id, rg, te, vo, 0, -1, dl, dl.base, x, false, false, false, 0, 0, 0, 0, 0, 0, [], 0⟩ : NodeV) ∧ (∀ j, rM29 j → w.heap.size ≤ j) ∧ (∀ j, rD29 j → B j ∨ (j = g ∧ j ≠ kl) ∨ w.heap.size ≤ j) ∧ Gr w w' := by
 have HG := V.Fr.refl [] w
 refine V.enter (n := 63) Try.func9 rfl rfl (by decide) rfl ?_
 refine V.sr ?_
 refine V.ru 2 ?_
 refine V.nt ?_
 refine V.seq ?_
 refine V.sr ?_
 refine V.ru 7 ?_
 refine V.splitF (j := 6) (t := 22) rfl rfl (by (first | rfl | (apply decide_eq_false; omega) | (simp; omega) | (unfold nmB; simp; omega))) ?_
 refine V.ru 4 ?_
 refine V.splitF (j := 10) (t := 26) rfl rfl (by (first | rfl | (apply decide_eq_false; omega) | (simp; omega) | (unfold nmB; simp; omega))) ?_
 refine V.ru 4 ?_
 refine V.splitF (j := 14) (t := 30) rfl rfl (by (first | rfl | (apply decide_eq_false; omega) | (simp; omega) | (unfold nmB; simp; omega))) ?_
 refine V.ru 4 ?_
 refine V.splitF (j := 18) (t := 34) rfl rfl (by (first | rfl | (apply decide_eq_false; omega) | (simp; omega) | (unfold nmB; simp; omega))) ?_
 refine V.ru 1 ?_
 refine V.yes rfl rfl rfl ?_
 refine V.call (rnumber_spec (n := te)) rfl rfl rfl ?_
 rintro _ w_ ⟨rfl, rfl⟩
 refine V.ru 3 ?_
 refine V.splitF (j := 23) (t := 39) rfl rfl (by (first | rfl | (apply decide_eq_false; omega) | (simp; omega) | (unfold nmB; simp; omega))) ?_
 refine V.ru 4 ?_
 refine V.splitF (j := 27) (t := 43) rfl rfl (by (first | rfl | (apply decide_eq_false; omega) | (simp; omega) | (unfold nmB; simp; omega))) ?_
 refine V.ru 3 ?_
 refine V.nt ?_
 refine V.condN rfl (by (first | rfl | (apply decide_eq_false; omega) | (simp; omega) | (unfold nmB; simp; omega))) ?_
 refine V.skip ?_
 refine V.tN ?_
 refine V.sr ?_
 refine V.ru 1 ?_
 refine V.call (base_spec FL) rfl rfl rfl ?_
 rintro _ w2 ⟨rfl, G3⟩
 have z4 := V.Fr.size G3
 refine V.ru 5 ?_
 refine V.nt ?_
 refine V.sr ?_
 refine V.ru 5 ?_
 replace FL := FL.gr G3
 refine V.call (copy_spec FL) rfl rfl rfl ?_
 rintro _ w12 ⟨k5, g6, B7, rfl, ⟨h8l, h8u⟩, F9, h10, h11, G13⟩
 have z14 := V.Fr.size G13
 refine V.ru 2 ?_
 have hb9 := F9.bl
 have hg9 := F9.gl
 have hl9 := F9.lt
 have hn9 := F9.nk
 have hm9 := F9.ng
 have hLo9 := F9.ok
 replace F_x := F_x.gr (G3.trans G13)
 refine V.call (clone_spec F_x V.lenA) rfl rfl rfl ?_
 rintro _ w18 ⟨a15, c16, rfl, F17, G19⟩
 have z20 := V.Fr.size G19
 refine V.mkStruct T_ok zero101 rfl rfl rfl rfl rfl ?_
 refine V.box rfl rfl rfl rfl ?_
 rintro k21 w23 s25 s26 G24 Fk22
 have z27 := V.Fr.size G24
 try simp only [V.cellsL, V.spliceL] at Fk22
 refine V.ru 2 ?_
 refine V.nt ?_
 refine V.ret ?_
 replace F9 := F9.gr (G19.trans G24)
 replace F17 := F17.gr G24
 have F9_ : Nd w23 k21 (fun j => j = k21 ∨ j = k5 ∨ j = g6) (fun j => B7 j ∨ V.In w12.heap.size w18.heap.size j) (⟨id, rg, te, vo, 0, -1, dl, dl.base, x, false, false, false, 0, 0, 0, 0, 0, 0, [], 0⟩ : NodeV) := ⟨⟨hid, hrg, hte, by dsimp only; omega, by dsimp only; omega, by dsimp only; omega, by dsimp only; omega, by dsimp only; omega, by dsimp only; omega, by dsimp only; omega, hx⟩, k5, g6, B7, V.None', V.None', _, _, none, 0, none, 0, [], ⟨⟨by omega, by omega⟩, ⟨⟨fun e => e, fun e => e⟩, ⟨fun e => e, fun e => e⟩, fun e => e, fun e => e⟩, fun j e => e.elim, ⟨.inl rfl, .inr (.inl rfl), .inr (.inr rfl)⟩, fun j e => e.elim, fun j e => e.elim, fun j e => .inl e, (by intro j h e; (try dsimp only [V.In] at h e); grind), (by intro j h; (try dsimp only [V.In] at h); first | omega | grind), (by intro j h; (try dsimp only [V.In] at h); first | omega | grind)⟩, Nat.le_refl _, Fk22, F9, ⟨V.RowE.nil, V.RowE.nil, F17.sl.mono (fun j h => .inr h)⟩⟩
 replace HG := HG.grow (G3.trans (G13.trans (G19.trans G24)))
 refine V.done rfl ?_
 exact ⟨_, _, _, rfl, ⟨by omega, by omega⟩, F9_, (by intro j h; (try dsimp only at h); omega), (by intro j h; (try dsimp only [V.In] at h); grind), HG⟩

end Go.Proofs.Ytphohfpbdkgnaaa
