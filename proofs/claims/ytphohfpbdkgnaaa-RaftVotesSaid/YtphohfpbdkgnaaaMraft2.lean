/- Proved here: walks: what functions of this seat's program return and what they leave of memory, each as a contract. Conditions: stated at each theorem. -/
import Derived.Test.YtphohfpbdkgnaaaMraft
namespace Go.Proofs.Ytphohfpbdkgnaaa
set_option linter.unusedVariables false
set_option linter.unusedSimpArgs false
open Go
open V (Bytes Meets Env Sl Own Gr Fr Cells S)

theorem tell_out (d : NodeV) (to : Int) (m : RMsg) : (tellV d to m).out.length = d.out.length + 1 := by unfold tellV; simp
theorem send_out (d : NodeV) (to : Int) : (sendV d to).out.length = d.out.length + 1 := by unfold sendV; split <;> exact tell_out _ _ _
theorem oth_out {f : NodeV → Int → NodeV} (hf : ∀ e k, (f e k).out.length = e.out.length + 1) (d : NodeV) : ∀ n, (othV f d n).out.length ≤ d.out.length + n
  | 0 => Nat.le_refl _
  | n + 1 => by
    have h := oth_out hf d n
    unfold othV
    split
    · omega
    · rw [hf]; omega
theorem oth_no {f : NodeV → Int → NodeV} {d : NodeV} {i : Nat} (h : (i : Int) = (othV f d i).id) : othV f d i = othV f d (i + 1) := by rw [othV, if_pos h]
theorem oth_yes {f : NodeV → Int → NodeV} {d : NodeV} {i : Nat} (h : ¬ (i : Int) = (othV f d i).id) : f (othV f d i) i = othV f d (i + 1) := by rw [othV, if_neg h]

set_option maxHeartbeats 4000000 in
set_option maxRecDepth 10000 in
theorem send_spec {w : World} {k : Nat} {M D : Nat → Prop} {d : NodeV} (FX : Nd w k M D d) {to : Int} (ht : 0 ≤ to ∧ to ≤ 2) (hs : d.out.length + 1 ≤ 1000000) :
    Meets Try.prog 46 [.pointer (some ⟨k, 0, none⟩), .int .i64 to] w fun r w' => ∃ (rM17 : Nat → Prop) (rD17 : Nat → Prop), r = .tuple #[] ∧ Nd w' k rM17 rD17 (sendV d to) ∧ (∀ j, rM17 j → M j ∨ w.heap.size ≤ j) ∧ (∀ j, rD17 j → D j ∨ M j ∨ w.heap.size ≤ j) ∧ V.FrE M w w' := by
 have hM := FX.lm
 have hk0 := FX.lm _ FX.mk'
 have hD := FX.ld
 have hMD := FX.dj
 have hMk := FX.mk'
 have HG := V.FrE.refl M w
 refine V.enter (n := 64) Try.func46 rfl rfl (by decide) rfl ?_
 refine V.seq ?_
 rcases (show to = 0 ∨ to = 1 ∨ to = 2 by omega) with rfl | rfl | rfl
 ·
  obtain ⟨kl_1, g_1, B_1, SO_1, SC_1, ad_1, cd_1, ao_1, co_1, ac_1, cc_1, ch_1, hP_1, hc_1, Fk_1, FL_1, FQ_1⟩ := FX.ex
  obtain ⟨hid_1, hrg_1, hte_1, hco_1, hx0_1, hx1_1, hx2_1, hm0_1, hm1_1, hm2_1, hda_1⟩ := FX.ok
  have nk_1 := hP_1.nk
  have nl_1 := hP_1.nl
  have ng_1 := hP_1.ng
  have kL_1 := hP_1.kL
  have lq_1 := hP_1.lq
  have bd_1 := hP_1.d
  obtain ⟨mk_1, ml_1, mg_1⟩ := hP_1.m
  have hA_1 := hP_1.a
  have lm_1 := hP_1.lm
  have ld_1 := hP_1.ld
  have hLo_1 := FL_1.ok
  have hLd_1 := FL_1.dl
  have hLg_1 := FL_1.gl
  have hLk_1 := FL_1.lt
  have hLb_1 := FL_1.bl
  have hkl_1 := Fk_1.lt
  have Fd_1 := FQ_1.d
  refine V.region ?_
  refine V.ru 4 ?_
  refine V.elemP T_ok rfl rfl rfl rfl rfl rfl (by first | omega | decide) (by first | omega | decide) ?_
  refine V.loadO T_ok Fk_1 rfl rfl rfl rfl rfl ?_
  refine V.subN rfl rfl rfl rfl rfl V.lenA V.lenA ?_
  refine V.ru 1 ?_
  refine V.nt ?_
  refine V.seq ?_
  refine V.sr ?_
  refine V.ru 3 ?_
  refine V.loadO T_ok Fk_1 rfl rfl rfl rfl rfl ?_
  refine V.call (base_spec FL_1) rfl rfl rfl ?_
  rintro _ w2 ⟨rfl, G3⟩
  have z4 := V.Fr.size G3
  refine V.ru 5 ?_
  refine V.nt ?_
  refine V.sr ?_
  refine V.ru 3 ?_
  refine V.nt ?_
  refine V.condT rfl (fun h2 => ?_) (fun h2 => ?_)
  ·
   try replace h2 := V.dec h2
   try simp only [V.mk] at h2
   refine V.sr ?_
   refine V.ru 7 ?_
   replace Fk_1 := Fk_1.gr G3
   refine V.loadO T_ok Fk_1 rfl rfl rfl rfl rfl ?_
   replace Fd_1 := Fd_1.gr G3
   refine V.call (clone_spec Fd_1 V.lenA) rfl rfl rfl ?_
   rintro _ w8 ⟨a5, c6, rfl, F7, G9⟩
   have z10 := V.Fr.size G9
   refine V.mkStruct T_ok zero57 rfl rfl rfl rfl rfl ?_
   replace FX := FX.gr (G3.trans G9)
   refine V.call (tell_spec (to := 0) (m := (⟨5, 0, 0, 0, 0, d.L.base, d.L.term, 0, false, [], d.da⟩ : RMsg)) FX (Sl.nil _ _ V.None' _ _ (Nat.zero_le _)) (fun _ h => h.elim) F7.sl (fun k hk => by have := hk.2; omega) (by intro j h; first | exact h.elim | (have a1 := hM j; (try dsimp only [V.In] at h); grind)) (by intro j h; first | exact h.elim | (have a1 := hM j; (try dsimp only [V.In] at h); grind)) (by first | assumption | omega | (dsimp only [turnV]; omega))) rfl rfl rfl ?_
   rintro _ w16 ⟨M11, D12, rfl, F13, h14, h15, G17⟩
   have z18 := V.FrE.size G17
   refine V.nt ?_
   refine V.ret ?_
   refine V.tR ?_
   rw [show sendV d 0 = tellV d (0 : Int) (⟨5, 0, 0, 0, 0, d.L.base, d.L.term, 0, false, [], d.da⟩ : RMsg) from if_pos h2]
   refine V.done rfl ?_
   replace HG := HG.grow (G3.trans G9)
   replace HG := HG.stepE G17 (by intro i h; (try dsimp only [V.In] at h ⊢); first | omega | grind)
   exact ⟨_, _, (by first | rfl | simp only [List.length_set]), F13, (by intro j h; (try dsimp only [V.In] at *); grind), (by intro j h; (try dsimp only [V.In] at *); grind), HG⟩
  ·
   try replace h2 := V.dec h2
   try simp only [V.mk] at h2
   refine V.skip ?_
   refine V.tN ?_
   refine V.sr ?_
   refine V.ru 3 ?_
   replace Fk_1 := Fk_1.gr G3
   refine V.loadO T_ok Fk_1 rfl rfl rfl rfl rfl ?_
   refine V.ru 1 ?_
   replace FL_1 := FL_1.gr G3
   refine V.call (term_spec (i := (d.x0 - 1)) FL_1) rfl rfl rfl ?_
   rintro _ w19 ⟨rfl, G20⟩
   have z21 := V.Fr.size G20
   refine V.ru 5 ?_
   refine V.nt ?_
   refine V.drawGT 16 (V.sel [(14, (fun v wz => ∃ (ra7 : Option Addr) (rc7 : Nat), v = .slice ra7 (fromV d.L ((d.x0 - 1) + 1) (8 : Int)).length rc7 ∧ V.Row V.Cod.oent 30 wz V.None' w19.heap.size wz.heap.size ra7 rc7 (fromV d.L ((d.x0 - 1) + 1) (8 : Int))))]) mixed (by kernel_rfl) (V.mono_cons (by rintro v wz wz' g ⟨ra7, rc7, rfl, rF7⟩; exact ⟨ra7, rc7, rfl, (by first | exact (rF7.gr g).mono (V.In.sub (Nat.le_refl _) g.size) | exact rF7.gr g | exact (rF7.gr g).mono (fun _ h => h) (Nat.le_refl _) g.size | exact (rF7.gr g).mono (fun k h => ⟨h.1, Nat.lt_of_lt_of_le h.2 g.size⟩))⟩) V.mono_nil) ?_
   refine V.grun T_ok 7 rfl (V.sel_none rfl) ?_
   replace Fk_1 := Fk_1.gr G20
   refine V.gloadO T_ok (fun w' h => Fk_1.gr h.1) rfl rfl rfl rfl rfl rfl ?_
   refine V.grun T_ok 3 rfl (V.sel_none rfl) ?_
   refine V.gloadO T_ok (fun w' h => Fk_1.gr h.1) rfl rfl rfl rfl rfl rfl ?_
   refine V.grun T_ok 1 rfl (V.sel_none rfl) ?_
   refine V.gaddM rfl rfl rfl rfl rfl V.lenA V.lenA ?_
   replace FL_1 := FL_1.gr G20
   refine V.gcall (fun w' h => (from_spec (i := ((d.x0 - 1) + 1)) (most := 8) (FL_1.gr h.1)).mono (by rintro v w'' ⟨ra7, rc7, rfl, rF7, G⟩; exact ⟨⟨ra7, rc7, rfl, (by first | exact rF7.mono (V.In.mono_l h.1.size) | exact rF7 | exact rF7.mono (fun _ h => h) h.1.size (Nat.le_refl _))⟩, G⟩)) rfl rfl rfl rfl ?_
   rintro _ w25 - - ⟨a22, c23, rfl, -⟩
   refine V.gmkStruct T_ok zero57 rfl rfl rfl rfl rfl rfl ?_
   refine V.gnil ?_
   rintro w26 G27 hH28
   have z29 := V.Fr.size G27
   have F24 : V.Row V.Cod.oent 30 w26 V.None' w19.heap.size w26.heap.size a22 c23 (fromV d.L ((d.x0 - 1) + 1) (8 : Int)) := by
     obtain ⟨_, _, he, F0⟩ := (V.Hist.here (hH28 14))
     cases he
     exact F0
   clear hH28
   replace FX := FX.gr (G3.trans (G20.trans G27))
   refine V.call (tell_spec (to := 0) (m := (⟨3, 0, 0, 0, 0, d.x0 - 1, trmV d.L (d.x0 - 1), d.co, false, fromV d.L ((d.x0 - 1) + 1) (8 : Int), []⟩ : RMsg)) FX (Sl.entOf F24.sl) (fun k hk => by have := hk.2; omega) (Sl.nil _ _ V.None' _ _ (Nat.zero_le _)) (fun _ h => h.elim) (by intro j h; first | exact h.elim | (have a1 := hM j; (try dsimp only [V.In] at h); grind)) (by intro j h; first | exact h.elim | (have a1 := hM j; (try dsimp only [V.In] at h); grind)) (by first | assumption | omega | (dsimp only [turnV]; omega))) rfl rfl rfl ?_
   rintro _ w35 ⟨M30, D31, rfl, F32, h33, h34, G36⟩
   have z37 := V.FrE.size G36
   refine V.nil ?_
   rw [show sendV d 0 = tellV d (0 : Int) (⟨3, 0, 0, 0, 0, d.x0 - 1, trmV d.L (d.x0 - 1), d.co, false, fromV d.L ((d.x0 - 1) + 1) (8 : Int), []⟩ : RMsg) from if_neg (Int.not_lt.2 h2)]
   refine V.doneN rfl ?_
   replace HG := HG.grow (G3.trans (G20.trans G27))
   replace HG := HG.stepE G36 (by intro i h; (try dsimp only [V.In] at h ⊢); first | omega | grind)
   exact ⟨_, _, (by first | rfl | simp only [List.length_set]), F32, (by intro j h; (try dsimp only [V.In] at *); grind), (by intro j h; (try dsimp only [V.In] at *); grind), HG⟩
 ·
  obtain ⟨kl_38, g_38, B_38, SO_38, SC_38, ad_38, cd_38, ao_38, co_38, ac_38, cc_38, ch_38, hP_38, hc_38, Fk_38, FL_38, FQ_38⟩ := FX.ex
  obtain ⟨hid_38, hrg_38, hte_38, hco_38, hx0_38, hx1_38, hx2_38, hm0_38, hm1_38, hm2_38, hda_38⟩ := FX.ok
  have nk_38 := hP_38.nk
  have nl_38 := hP_38.nl
  have ng_38 := hP_38.ng
  have kL_38 := hP_38.kL
  have lq_38 := hP_38.lq
  have bd_38 := hP_38.d
  obtain ⟨mk_38, ml_38, mg_38⟩ := hP_38.m
  have hA_38 := hP_38.a
  have lm_38 := hP_38.lm
  have ld_38 := hP_38.ld
  have hLo_38 := FL_38.ok
  have hLd_38 := FL_38.dl
  have hLg_38 := FL_38.gl
  have hLk_38 := FL_38.lt
  have hLb_38 := FL_38.bl
  have hkl_38 := Fk_38.lt
  have Fd_38 := FQ_38.d
  refine V.region ?_
  refine V.ru 4 ?_
  refine V.elemP T_ok rfl rfl rfl rfl rfl rfl (by first | omega | decide) (by first | omega | decide) ?_
  refine V.loadO T_ok Fk_38 rfl rfl rfl rfl rfl ?_
  refine V.subN rfl rfl rfl rfl rfl V.lenA V.lenA ?_
  refine V.ru 1 ?_
  refine V.nt ?_
  refine V.seq ?_
  refine V.sr ?_
  refine V.ru 3 ?_
  refine V.loadO T_ok Fk_38 rfl rfl rfl rfl rfl ?_
  refine V.call (base_spec FL_38) rfl rfl rfl ?_
  rintro _ w39 ⟨rfl, G40⟩
  have z41 := V.Fr.size G40
  refine V.ru 5 ?_
  refine V.nt ?_
  refine V.sr ?_
  refine V.ru 3 ?_
  refine V.nt ?_
  refine V.condT rfl (fun h2 => ?_) (fun h2 => ?_)
  ·
   try replace h2 := V.dec h2
   try simp only [V.mk] at h2
   refine V.sr ?_
   refine V.ru 7 ?_
   replace Fk_38 := Fk_38.gr G40
   refine V.loadO T_ok Fk_38 rfl rfl rfl rfl rfl ?_
   replace Fd_38 := Fd_38.gr G40
   refine V.call (clone_spec Fd_38 V.lenA) rfl rfl rfl ?_
   rintro _ w45 ⟨a42, c43, rfl, F44, G46⟩
   have z47 := V.Fr.size G46
   refine V.mkStruct T_ok zero57 rfl rfl rfl rfl rfl ?_
   replace FX := FX.gr (G40.trans G46)
   refine V.call (tell_spec (to := 1) (m := (⟨5, 0, 0, 0, 0, d.L.base, d.L.term, 0, false, [], d.da⟩ : RMsg)) FX (Sl.nil _ _ V.None' _ _ (Nat.zero_le _)) (fun _ h => h.elim) F44.sl (fun k hk => by have := hk.2; omega) (by intro j h; first | exact h.elim | (have a1 := hM j; (try dsimp only [V.In] at h); grind)) (by intro j h; first | exact h.elim | (have a1 := hM j; (try dsimp only [V.In] at h); grind)) (by first | assumption | omega | (dsimp only [turnV]; omega))) rfl rfl rfl ?_
   rintro _ w53 ⟨M48, D49, rfl, F50, h51, h52, G54⟩
   have z55 := V.FrE.size G54
   refine V.nt ?_
   refine V.ret ?_
   refine V.tR ?_
   rw [show sendV d 1 = tellV d (1 : Int) (⟨5, 0, 0, 0, 0, d.L.base, d.L.term, 0, false, [], d.da⟩ : RMsg) from if_pos h2]
   refine V.done rfl ?_
   replace HG := HG.grow (G40.trans G46)
   replace HG := HG.stepE G54 (by intro i h; (try dsimp only [V.In] at h ⊢); first | omega | grind)
   exact ⟨_, _, (by first | rfl | simp only [List.length_set]), F50, (by intro j h; (try dsimp only [V.In] at *); grind), (by intro j h; (try dsimp only [V.In] at *); grind), HG⟩
  ·
   try replace h2 := V.dec h2
   try simp only [V.mk] at h2
   refine V.skip ?_
   refine V.tN ?_
   refine V.sr ?_
   refine V.ru 3 ?_
   replace Fk_38 := Fk_38.gr G40
   refine V.loadO T_ok Fk_38 rfl rfl rfl rfl rfl ?_
   refine V.ru 1 ?_
   replace FL_38 := FL_38.gr G40
   refine V.call (term_spec (i := (d.x1 - 1)) FL_38) rfl rfl rfl ?_
   rintro _ w56 ⟨rfl, G57⟩
   have z58 := V.Fr.size G57
   refine V.ru 5 ?_
   refine V.nt ?_
   refine V.drawGT 16 (V.sel [(14, (fun v wz => ∃ (ra7 : Option Addr) (rc7 : Nat), v = .slice ra7 (fromV d.L ((d.x1 - 1) + 1) (8 : Int)).length rc7 ∧ V.Row V.Cod.oent 30 wz V.None' w56.heap.size wz.heap.size ra7 rc7 (fromV d.L ((d.x1 - 1) + 1) (8 : Int))))]) mixed (by kernel_rfl) (V.mono_cons (by rintro v wz wz' g ⟨ra7, rc7, rfl, rF7⟩; exact ⟨ra7, rc7, rfl, (by first | exact (rF7.gr g).mono (V.In.sub (Nat.le_refl _) g.size) | exact rF7.gr g | exact (rF7.gr g).mono (fun _ h => h) (Nat.le_refl _) g.size | exact (rF7.gr g).mono (fun k h => ⟨h.1, Nat.lt_of_lt_of_le h.2 g.size⟩))⟩) V.mono_nil) ?_
   refine V.grun T_ok 7 rfl (V.sel_none rfl) ?_
   replace Fk_38 := Fk_38.gr G57
   refine V.gloadO T_ok (fun w' h => Fk_38.gr h.1) rfl rfl rfl rfl rfl rfl ?_
   refine V.grun T_ok 3 rfl (V.sel_none rfl) ?_
   refine V.gloadO T_ok (fun w' h => Fk_38.gr h.1) rfl rfl rfl rfl rfl rfl ?_
   refine V.grun T_ok 1 rfl (V.sel_none rfl) ?_
   refine V.gaddM rfl rfl rfl rfl rfl V.lenA V.lenA ?_
   replace FL_38 := FL_38.gr G57
   refine V.gcall (fun w' h => (from_spec (i := ((d.x1 - 1) + 1)) (most := 8) (FL_38.gr h.1)).mono (by rintro v w'' ⟨ra7, rc7, rfl, rF7, G⟩; exact ⟨⟨ra7, rc7, rfl, (by first | exact rF7.mono (V.In.mono_l h.1.size) | exact rF7 | exact rF7.mono (fun _ h => h) h.1.size (Nat.le_refl _))⟩, G⟩)) rfl rfl rfl rfl ?_
   rintro _ w62 - - ⟨a59, c60, rfl, -⟩
   refine V.gmkStruct T_ok zero57 rfl rfl rfl rfl rfl rfl ?_
   refine V.gnil ?_
   rintro w63 G64 hH65
   have z66 := V.Fr.size G64
   have F61 : V.Row V.Cod.oent 30 w63 V.None' w56.heap.size w63.heap.size a59 c60 (fromV d.L ((d.x1 - 1) + 1) (8 : Int)) := by
     obtain ⟨_, _, he, F0⟩ := (V.Hist.here (hH65 14))
     cases he
     exact F0
   clear hH65
   replace FX := FX.gr (G40.trans (G57.trans G64))
   refine V.call (tell_spec (to := 1) (m := (⟨3, 0, 0, 0, 0, d.x1 - 1, trmV d.L (d.x1 - 1), d.co, false, fromV d.L ((d.x1 - 1) + 1) (8 : Int), []⟩ : RMsg)) FX (Sl.entOf F61.sl) (fun k hk => by have := hk.2; omega) (Sl.nil _ _ V.None' _ _ (Nat.zero_le _)) (fun _ h => h.elim) (by intro j h; first | exact h.elim | (have a1 := hM j; (try dsimp only [V.In] at h); grind)) (by intro j h; first | exact h.elim | (have a1 := hM j; (try dsimp only [V.In] at h); grind)) (by first | assumption | omega | (dsimp only [turnV]; omega))) rfl rfl rfl ?_
   rintro _ w72 ⟨M67, D68, rfl, F69, h70, h71, G73⟩
   have z74 := V.FrE.size G73
   refine V.nil ?_
   rw [show sendV d 1 = tellV d (1 : Int) (⟨3, 0, 0, 0, 0, d.x1 - 1, trmV d.L (d.x1 - 1), d.co, false, fromV d.L ((d.x1 - 1) + 1) (8 : Int), []⟩ : RMsg) from if_neg (Int.not_lt.2 h2)]
   refine V.doneN rfl ?_
   replace HG := HG.grow (G40.trans (G57.trans G64))
   replace HG := HG.stepE G73 (by intro i h; (try dsimp only [V.In] at h ⊢); first | omega | grind)
   exact ⟨_, _, (by first | rfl | simp only [List.length_set]), F69, (by intro j h; (try dsimp only [V.In] at *); grind), (by intro j h; (try dsimp only [V.In] at *); grind), HG⟩
 ·
  obtain ⟨kl_75, g_75, B_75, SO_75, SC_75, ad_75, cd_75, ao_75, co_75, ac_75, cc_75, ch_75, hP_75, hc_75, Fk_75, FL_75, FQ_75⟩ := FX.ex
  obtain ⟨hid_75, hrg_75, hte_75, hco_75, hx0_75, hx1_75, hx2_75, hm0_75, hm1_75, hm2_75, hda_75⟩ := FX.ok
  have nk_75 := hP_75.nk
  have nl_75 := hP_75.nl
  have ng_75 := hP_75.ng
  have kL_75 := hP_75.kL
  have lq_75 := hP_75.lq
  have bd_75 := hP_75.d
  obtain ⟨mk_75, ml_75, mg_75⟩ := hP_75.m
  have hA_75 := hP_75.a
  have lm_75 := hP_75.lm
  have ld_75 := hP_75.ld
  have hLo_75 := FL_75.ok
  have hLd_75 := FL_75.dl
  have hLg_75 := FL_75.gl
  have hLk_75 := FL_75.lt
  have hLb_75 := FL_75.bl
  have hkl_75 := Fk_75.lt
  have Fd_75 := FQ_75.d
  refine V.region ?_
  refine V.ru 4 ?_
  refine V.elemP T_ok rfl rfl rfl rfl rfl rfl (by first | omega | decide) (by first | omega | decide) ?_
  refine V.loadO T_ok Fk_75 rfl rfl rfl rfl rfl ?_
  refine V.subN rfl rfl rfl rfl rfl V.lenA V.lenA ?_
  refine V.ru 1 ?_
  refine V.nt ?_
  refine V.seq ?_
  refine V.sr ?_
  refine V.ru 3 ?_
  refine V.loadO T_ok Fk_75 rfl rfl rfl rfl rfl ?_
  refine V.call (base_spec FL_75) rfl rfl rfl ?_
  rintro _ w76 ⟨rfl, G77⟩
  have z78 := V.Fr.size G77
  refine V.ru 5 ?_
  refine V.nt ?_
  refine V.sr ?_
  refine V.ru 3 ?_
  refine V.nt ?_
  refine V.condT rfl (fun h2 => ?_) (fun h2 => ?_)
  ·
   try replace h2 := V.dec h2
   try simp only [V.mk] at h2
   refine V.sr ?_
   refine V.ru 7 ?_
   replace Fk_75 := Fk_75.gr G77
   refine V.loadO T_ok Fk_75 rfl rfl rfl rfl rfl ?_
   replace Fd_75 := Fd_75.gr G77
   refine V.call (clone_spec Fd_75 V.lenA) rfl rfl rfl ?_
   rintro _ w82 ⟨a79, c80, rfl, F81, G83⟩
   have z84 := V.Fr.size G83
   refine V.mkStruct T_ok zero57 rfl rfl rfl rfl rfl ?_
   replace FX := FX.gr (G77.trans G83)
   refine V.call (tell_spec (to := 2) (m := (⟨5, 0, 0, 0, 0, d.L.base, d.L.term, 0, false, [], d.da⟩ : RMsg)) FX (Sl.nil _ _ V.None' _ _ (Nat.zero_le _)) (fun _ h => h.elim) F81.sl (fun k hk => by have := hk.2; omega) (by intro j h; first | exact h.elim | (have a1 := hM j; (try dsimp only [V.In] at h); grind)) (by intro j h; first | exact h.elim | (have a1 := hM j; (try dsimp only [V.In] at h); grind)) (by first | assumption | omega | (dsimp only [turnV]; omega))) rfl rfl rfl ?_
   rintro _ w90 ⟨M85, D86, rfl, F87, h88, h89, G91⟩
   have z92 := V.FrE.size G91
   refine V.nt ?_
   refine V.ret ?_
   refine V.tR ?_
   rw [show sendV d 2 = tellV d (2 : Int) (⟨5, 0, 0, 0, 0, d.L.base, d.L.term, 0, false, [], d.da⟩ : RMsg) from if_pos h2]
   refine V.done rfl ?_
   replace HG := HG.grow (G77.trans G83)
   replace HG := HG.stepE G91 (by intro i h; (try dsimp only [V.In] at h ⊢); first | omega | grind)
   exact ⟨_, _, (by first | rfl | simp only [List.length_set]), F87, (by intro j h; (try dsimp only [V.In] at *); grind), (by intro j h; (try dsimp only [V.In] at *); grind), HG⟩
  ·
   try replace h2 := V.dec h2
   try simp only [V.mk] at h2
   refine V.skip ?_
   refine V.tN ?_
   refine V.sr ?_
   refine V.ru 3 ?_
   replace Fk_75 := Fk_75.gr G77
   refine V.loadO T_ok Fk_75 rfl rfl rfl rfl rfl ?_
   refine V.ru 1 ?_
   replace FL_75 := FL_75.gr G77
   refine V.call (term_spec (i := (d.x2 - 1)) FL_75) rfl rfl rfl ?_
   rintro _ w93 ⟨rfl, G94⟩
   have z95 := V.Fr.size G94
   refine V.ru 5 ?_
   refine V.nt ?_
   refine V.drawGT 16 (V.sel [(14, (fun v wz => ∃ (ra7 : Option Addr) (rc7 : Nat), v = .slice ra7 (fromV d.L ((d.x2 - 1) + 1) (8 : Int)).length rc7 ∧ V.Row V.Cod.oent 30 wz V.None' w93.heap.size wz.heap.size ra7 rc7 (fromV d.L ((d.x2 - 1) + 1) (8 : Int))))]) mixed (by kernel_rfl) (V.mono_cons (by rintro v wz wz' g ⟨ra7, rc7, rfl, rF7⟩; exact ⟨ra7, rc7, rfl, (by first | exact (rF7.gr g).mono (V.In.sub (Nat.le_refl _) g.size) | exact rF7.gr g | exact (rF7.gr g).mono (fun _ h => h) (Nat.le_refl _) g.size | exact (rF7.gr g).mono (fun k h => ⟨h.1, Nat.lt_of_lt_of_le h.2 g.size⟩))⟩) V.mono_nil) ?_
   refine V.grun T_ok 7 rfl (V.sel_none rfl) ?_
   replace Fk_75 := Fk_75.gr G94
   refine V.gloadO T_ok (fun w' h => Fk_75.gr h.1) rfl rfl rfl rfl rfl rfl ?_
   refine V.grun T_ok 3 rfl (V.sel_none rfl) ?_
   refine V.gloadO T_ok (fun w' h => Fk_75.gr h.1) rfl rfl rfl rfl rfl rfl ?_
   refine V.grun T_ok 1 rfl (V.sel_none rfl) ?_
   refine V.gaddM rfl rfl rfl rfl rfl V.lenA V.lenA ?_
   replace FL_75 := FL_75.gr G94
   refine V.gcall (fun w' h => (from_spec (i := ((d.x2 - 1) + 1)) (most := 8) (FL_75.gr h.1)).mono (by rintro v w'' ⟨ra7, rc7, rfl, rF7, G⟩; exact ⟨⟨ra7, rc7, rfl, (by first | exact rF7.mono (V.In.mono_l h.1.size) | exact rF7 | exact rF7.mono (fun _ h => h) h.1.size (Nat.le_refl _))⟩, G⟩)) rfl rfl rfl rfl ?_
   rintro _ w99 - - ⟨a96, c97, rfl, -⟩
   refine V.gmkStruct T_ok zero57 rfl rfl rfl rfl rfl rfl ?_
   refine V.gnil ?_
   rintro w100 G101 hH102
   have z103 := V.Fr.size G101
   have F98 : V.Row V.Cod.oent 30 w100 V.None' w93.heap.size w100.heap.size a96 c97 (fromV d.L ((d.x2 - 1) + 1) (8 : Int)) := by
     obtain ⟨_, _, he, F0⟩ := (V.Hist.here (hH102 14))
     cases he
     exact F0
   clear hH102
   replace FX := FX.gr (G77.trans (G94.trans G101))
   refine V.call (tell_spec (to := 2) (m := (⟨3, 0, 0, 0, 0, d.x2 - 1, trmV d.L (d.x2 - 1), d.co, false, fromV d.L ((d.x2 - 1) + 1) (8 : Int), []⟩ : RMsg)) FX (Sl.entOf F98.sl) (fun k hk => by have := hk.2; omega) (Sl.nil _ _ V.None' _ _ (Nat.zero_le _)) (fun _ h => h.elim) (by intro j h; first | exact h.elim | (have a1 := hM j; (try dsimp only [V.In] at h); grind)) (by intro j h; first | exact h.elim | (have a1 := hM j; (try dsimp only [V.In] at h); grind)) (by first | assumption | omega | (dsimp only [turnV]; omega))) rfl rfl rfl ?_
   rintro _ w109 ⟨M104, D105, rfl, F106, h107, h108, G110⟩
   have z111 := V.FrE.size G110
   refine V.nil ?_
   rw [show sendV d 2 = tellV d (2 : Int) (⟨3, 0, 0, 0, 0, d.x2 - 1, trmV d.L (d.x2 - 1), d.co, false, fromV d.L ((d.x2 - 1) + 1) (8 : Int), []⟩ : RMsg) from if_neg (Int.not_lt.2 h2)]
   refine V.doneN rfl ?_
   replace HG := HG.grow (G77.trans (G94.trans G101))
   replace HG := HG.stepE G110 (by intro i h; (try dsimp only [V.In] at h ⊢); first | omega | grind)
   exact ⟨_, _, (by first | rfl | simp only [List.length_set]), F106, (by intro j h; (try dsimp only [V.In] at *); grind), (by intro j h; (try dsimp only [V.In] at *); grind), HG⟩

set_option maxHeartbeats 4000000 in
set_option maxRecDepth 10000 in
theorem oth_send {w : World} {k : Nat} {M D : Nat → Prop} {d : NodeV} (FX : Nd w k M D d)  (hs : d.out.length + 3 ≤ 1000000) :
    Meets Try.prog 41 [.pointer (some ⟨k, 0, none⟩), .func (.func 46) #[.pointer (some ⟨k, 0, none⟩)] #[]] w fun r w' => ∃ (rM18 : Nat → Prop) (rD18 : Nat → Prop), r = .tuple #[] ∧ Nd w' k rM18 rD18 (othV sendV d 3) ∧ (∀ j, rM18 j → M j ∨ w.heap.size ≤ j) ∧ (∀ j, rD18 j → D j ∨ M j ∨ w.heap.size ≤ j) ∧ V.FrE M w w' := by
 have hM := FX.lm
 have hk0 := FX.lm _ FX.mk'
 have hD := FX.ld
 have hMD := FX.dj
 have hMk := FX.mk'
 have HG := V.FrE.refl M w
 refine V.enter (n := 18) Try.func41 rfl rfl (by decide) rfl ?_
 refine V.sr ?_
 refine V.ru 1 ?_
 refine V.nt ?_
 refine V.block ?_
 refine V.loopM (fun m e v2 => V.FrE M w v2 ∧ w.heap.size ≤ v2.heap.size ∧ ∃ (i : Nat) (Mi Di : Nat → Prop) , m = 3 - i ∧ i ≤ 3 ∧ (othV sendV d i).out.length ≤ d.out.length + i ∧ (∀ j, Mi j → M j ∨ w.heap.size ≤ j) ∧ (∀ j, Di j → D j ∨ M j ∨ w.heap.size ≤ j) ∧ Nd v2 k Mi Di (othV sendV d i) ∧ e 0 = .pointer (some ⟨k, 0, none⟩) ∧ e 1 = .func (.func 46) #[.pointer (some ⟨k, 0, none⟩)] #[] ∧ e 5 = .int .i64 (i : Int)) ?_ ?_
 ·
  exact ⟨_, HG, (by omega), (0), (M), (D), rfl, (Nat.zero_le _), (Nat.le_refl _), ((by intro j h; (try dsimp only [V.In] at h ⊢); grind)), ((by intro j h; (try dsimp only [V.In] at h ⊢); grind)), FX, rfl, rfl, rfl⟩
 clear HG FX
 rintro _ e v2 ⟨HG, z3, i, Mi, Di, rfl, hi, hol, hMi, hDi, FX, he0_0, he0_1, he0_5⟩
 refine V.knownC (t := 0) he0_0 ?_
 refine V.knownC (t := 1) he0_1 ?_
 refine V.knownC (t := 5) he0_5 ?_
 refine V.sr ?_
 refine V.ru 1 ?_
 refine V.nt ?_
 refine V.seq ?_
 refine V.condT rfl (fun h1 => ?_) (fun h1 => ?_)
 ·
  try replace h1 := V.dec h1
  try simp only [V.mk] at h1
  refine V.skip ?_
  refine V.tN ?_
  refine V.seq ?_
  refine V.block ?_
  refine V.sr ?_
  refine V.ru 2 ?_
  refine V.nt ?_
  refine V.seq ?_
  obtain ⟨kl_4, g_4, B_4, SO_4, SC_4, ad_4, cd_4, ao_4, co_4, ac_4, cc_4, ch_4, hP_4, hc_4, Fk_4, FL_4, FQ_4⟩ := FX.ex
  obtain ⟨hid_4, hrg_4, hte_4, hco_4, hx0_4, hx1_4, hx2_4, hm0_4, hm1_4, hm2_4, hda_4⟩ := FX.ok
  have nk_4 := hP_4.nk
  have nl_4 := hP_4.nl
  have ng_4 := hP_4.ng
  have kL_4 := hP_4.kL
  have lq_4 := hP_4.lq
  have bd_4 := hP_4.d
  obtain ⟨mk_4, ml_4, mg_4⟩ := hP_4.m
  have hA_4 := hP_4.a
  have lm_4 := hP_4.lm
  have ld_4 := hP_4.ld
  have hLo_4 := FL_4.ok
  have hLd_4 := FL_4.dl
  have hLg_4 := FL_4.gl
  have hLk_4 := FL_4.lt
  have hLb_4 := FL_4.bl
  have hkl_4 := Fk_4.lt
  refine V.region ?_
  refine V.ru 4 ?_
  refine V.loadO T_ok Fk_4 rfl rfl rfl rfl rfl ?_
  refine V.ru 1 ?_
  refine V.nt ?_
  refine V.condT rfl (fun h3 => ?_) (fun h3 => ?_)
  ·
   try replace h3 := V.dec h3
   try simp only [V.mk] at h3
   refine V.region ?_
   refine V.ru 2 ?_
   refine V.call (send_spec (to := (i : Int)) FX ⟨by omega, by omega⟩ (by first | assumption | omega)) rfl rfl rfl ?_
   rintro _ w10 ⟨M5, D6, rfl, F7, h8, h9, G11⟩
   have z12 := V.FrE.size G11
   refine V.nil ?_
   refine V.bN ?_
   refine V.tN ?_
   refine V.region ?_
   refine V.addN rfl rfl rfl rfl rfl V.lenA V.lenA ?_
   refine V.ru 1 ?_
   refine V.nt ?_
   have hr13 : sendV (othV sendV d i) (i : Int) = othV sendV d (i + 1) := oth_yes h3
   rw [hr13] at F7
   clear hr13
   replace HG := HG.stepE G11 (by intro i h; (try dsimp only [V.In] at h ⊢); first | omega | grind)
   exact ⟨_, (by omega), HG, (by omega), (i + 1), (M5), (D6), rfl, (by omega), (by have := oth_out (f := sendV) (fun e k => send_out e k) d (i + 1); omega), ((by intro j h; (try dsimp only [V.In] at h ⊢); grind)), ((by intro j h; (try dsimp only [V.In] at h ⊢); grind)), F7, rfl, rfl, rfl⟩
  ·
   try replace h3 := V.dec h3
   try simp only [V.mk] at h3
   refine V.skip ?_
   refine V.bN ?_
   refine V.tN ?_
   refine V.region ?_
   refine V.addN rfl rfl rfl rfl rfl V.lenA V.lenA ?_
   refine V.ru 1 ?_
   refine V.nt ?_
   have hr14 : othV sendV d i = othV sendV d (i + 1) := oth_no (by first | exact h3 | exact Decidable.not_not.1 h3)
   rw [hr14] at FX
   clear hr14
   exact ⟨_, (by omega), HG, (by omega), (i + 1), (Mi), (Di), rfl, (by omega), (by have := oth_out (f := sendV) (fun e k => send_out e k) d (i + 1); omega), ((by intro j h; (try dsimp only [V.In] at h ⊢); grind)), ((by intro j h; (try dsimp only [V.In] at h ⊢); grind)), FX, rfl, rfl, rfl⟩
 ·
  try replace h1 := V.dec h1
  try simp only [V.mk] at h1
  refine V.exit ?_
  refine V.tX ?_
  refine V.tX ?_
  refine V.bE ?_
  obtain rfl : i = 3 := by omega
  refine V.doneN rfl ?_
  exact ⟨_, _, (by first | rfl | simp only [List.length_set]), FX, (by intro j h; (try dsimp only [V.In] at h ⊢); grind), (by intro j h; (try dsimp only [V.In] at h ⊢); grind), HG⟩

set_option maxHeartbeats 4000000 in
set_option maxRecDepth 10000 in
theorem more_spec {w : World} {k : Nat} {M D : Nat → Prop} {d : NodeV} (FX : Nd w k M D d) {D_x : Nat → Prop} {c_x : Nat} {a_x : Option Addr} {x : List UInt8} (F_x : Sl V.Cod.byte w D_x a_x c_x x) (hD_x : ∀ k, D_x k → k < w.heap.size) (hs : d.nc + 1 ≤ 1000000) (hL : d.L.l.length + 1 ≤ 1000000) (hx : x.length ≤ 1000000) :
    Meets Try.prog 45 [.pointer (some ⟨k, 0, none⟩), .slice a_x x.length c_x] w fun r w' => ∃ (rM20 : Nat → Prop) (rD20 : Nat → Prop), r = .tuple #[.int .i64 (appI d.L d.te x), .int .i64 (appE d.L d.te x)] ∧ Nd w' k rM20 rD20 (moreV d x) ∧ (∀ j, rM20 j → M j ∨ w.heap.size ≤ j) ∧ (∀ j, rD20 j → D j ∨ M j ∨ w.heap.size ≤ j) ∧ V.FrE M w w' := by
 have hM := FX.lm
 have hk0 := FX.lm _ FX.mk'
 have hD := FX.ld
 have hMD := FX.dj
 have hMk := FX.mk'
 have HG := V.FrE.refl M w
 refine V.enter (n := 34) Try.func45 rfl rfl (by decide) rfl ?_
 refine V.seq ?_
 obtain ⟨kl_1, g_1, B_1, SO_1, SC_1, ad_1, cd_1, ao_1, co_1, ac_1, cc_1, ch_1, hP_1, hc_1, Fk_1, FL_1, FQ_1⟩ := FX.ex
 obtain ⟨hid_1, hrg_1, hte_1, hco_1, hx0_1, hx1_1, hx2_1, hm0_1, hm1_1, hm2_1, hda_1⟩ := FX.ok
 have nk_1 := hP_1.nk
 have nl_1 := hP_1.nl
 have ng_1 := hP_1.ng
 have kL_1 := hP_1.kL
 have lq_1 := hP_1.lq
 have bd_1 := hP_1.d
 obtain ⟨mk_1, ml_1, mg_1⟩ := hP_1.m
 have hA_1 := hP_1.a
 have lm_1 := hP_1.lm
 have ld_1 := hP_1.ld
 have hLo_1 := FL_1.ok
 have hLd_1 := FL_1.dl
 have hLg_1 := FL_1.gl
 have hLk_1 := FL_1.lt
 have hLb_1 := FL_1.bl
 have hkl_1 := Fk_1.lt
 clear FX
 refine V.region ?_
 refine V.ru 2 ?_
 refine V.nt ?_
 refine V.seq ?_
 refine V.drawGT 8 (V.sel [(5, (fun v wz => ∃ (ra1 : Option Addr) (rc1 : Nat), v = .slice ra1 x.length rc1 ∧ V.Row V.Cod.byte 5 wz V.None' w.heap.size wz.heap.size ra1 rc1 x)), (7, V.newC w.heap.size [.int .i64 0, .slice none 0 0] 30)]) mixed (by kernel_rfl) (V.mono_cons (by rintro v wz wz' g ⟨ra1, rc1, rfl, rF1⟩; exact ⟨ra1, rc1, rfl, (by first | exact (rF1.gr g).mono (V.In.sub (Nat.le_refl _) g.size) | exact rF1.gr g | exact (rF1.gr g).mono (fun _ h => h) (Nat.le_refl _) g.size | exact (rF1.gr g).mono (fun k h => ⟨h.1, Nat.lt_of_lt_of_le h.2 g.size⟩))⟩) (V.mono_cons V.newC_mono V.mono_nil)) ?_
 refine V.grun T_ok 3 rfl (V.sel_none rfl) ?_
 refine V.gloadO T_ok (fun w' h => Fk_1.gr h.1) rfl rfl rfl rfl rfl rfl ?_
 refine V.grun T_ok 1 rfl (V.sel_none rfl) ?_
 refine V.gcall (fun w' h => (clone_spec (F_x.gr h.1) V.lenA).mono (by rintro v w'' ⟨ra1, rc1, rfl, rF1, G⟩; exact ⟨⟨ra1, rc1, rfl, (by first | exact rF1.mono (V.In.mono_l h.1.size) | exact rF1 | exact rF1.mono (fun _ h => h) h.1.size (Nat.le_refl _))⟩, G⟩)) rfl rfl rfl rfl ?_
 rintro _ w5 - - ⟨a2, c3, rfl, -⟩
 refine V.gmkStruct T_ok zero30 rfl rfl rfl rfl rfl rfl ?_
 refine V.galloc (lo := w.heap.size) zero30 (by omega) rfl rfl rfl rfl ?_
 rintro k6
 refine V.gnil ?_
 rintro w8 G9 hH10
 have z11 := V.Fr.size G9
 have F4 : V.Row V.Cod.byte 5 w8 V.None' w.heap.size w8.heap.size a2 c3 x := by
   obtain ⟨_, _, he, F0⟩ := (V.Hist.here (V.Hist.old (hH10 5)))
   cases he
   exact F0
 have Fk7 := V.newC_get (V.Hist.here (hH10 7))
 have hk12 := V.newC_lt (V.Hist.here (hH10 7))
 clear hH10
 have F4e := V.Row.apart V.flat_byte F4 Fk7 (by decide)
 clear F4
 refine V.storeO Fk7 rfl rfl rfl rfl sz30 rfl rfl rfl rfl ?_
 rintro w13 G14 z16 Fs15
 clear Fk7
 have z17 := V.Fr.size G14
 have Fk7 := Fs15; clear Fs15
 simp only [V.spliceL, V.cellsL] at Fk7
 refine V.nt ?_
 refine V.seq ?_
 refine V.drawM (V.Fr [kl_1, g_1] w13) (fun i => Nat.beq i 5) (fun _ g => g.mono (by simp)) mixed (by kernel_rfl) (by kernel_rfl) ?_
 refine V.mrun T_ok 3 rfl rfl ?_
 replace Fk_1 := Fk_1.gr G9
 replace Fk_1 := Fk_1.ma G14
 refine V.mloadO T_ok (fun w' g => Fk_1.mv g (by intro i hi; simp at hi; omega)) rfl rfl rfl rfl rfl rfl ?_
 refine V.mloadO T_ok (fun w' g => Fk7.mv g (by intro i hi; simp at hi; omega)) rfl rfl rfl rfl rfl rfl ?_
 replace FL_1 := FL_1.gr G9
 replace FL_1 := FL_1.mv1 G14 (by (try dsimp only [V.In]); first | omega | grind)
 replace F4e := F4e.mv1 G14 (by (try dsimp only [V.In]); first | omega | grind)
 refine V.mcall rfl (fun w' g h => append_spec (t := d.te) (show Lg w' kl_1 g_1 B_1 d.L from by have g0 := h; exact (FL_1.gr g0)) (by have g0 := h; exact (F4e.gr g0).sl) (by have := Fr.size g; intro k h; (try dsimp only [V.In] at h ⊢); first | omega | grind) (by first | omega | simp | decide)) (by rintro wa va wb ca _ ⟨g18, B19, rfl, F20, h21, h22, G23⟩; exact (ca.trans G23).mono (by intro k hk _; simp at hk ⊢; omega)) rfl rfl rfl ?_
 rintro _ w26 w27 _ _ ⟨g18, B19, rfl, F20, h21, h22, G23⟩
 refine V.mrun T_ok 5 rfl rfl ?_
 refine V.mnil ?_
 rintro w28 c30 hN29
 obtain ⟨w24, c25, g0, ⟨g18, B19, -, F20, h21, h22, G23⟩⟩ := hN29
 have z31 := V.Fr.size g0
 obtain ⟨w32, G33, G34⟩ := V.Fr.two G23
 have z35 := V.Fr.size G33
 have z36 := V.Fr.size G34
 refine V.tN ?_
 refine V.seq ?_
 refine V.seq ?_
 have nk9_1 := F20.nk
 have ng9_1 := F20.ng
 have gl9_1 := F20.gl
 have bl9_1 := F20.bl
 replace Fk_1 := Fk_1.gr g0
 replace Fk_1 := Fk_1.ma G33
 replace Fk_1 := Fk_1.ma G34
 replace FQ_1 := FQ_1.gr G9
 replace FQ_1 := FQ_1.mv1 G14 (by (try dsimp only [V.In]); first | omega | grind)
 replace FQ_1 := FQ_1.gr g0
 replace FQ_1 := FQ_1.mv1 G33 (by (try dsimp only [V.In]); first | omega | grind)
 replace FQ_1 := FQ_1.mv1 G34 (by (try dsimp only [V.In]); first | omega | grind)
 have F37 : Nd w28 k (fun j => (M j ∧ (j ≠ g_1 ∨ g18 = g_1 ∨ j = kl_1)) ∨ j = g18) (fun j => D j ∨ B19 j) ({ d with L := appV d.L d.te x }) := ⟨⟨hid_1, hrg_1, hte_1, hco_1, hx0_1, hx1_1, hx2_1, hm0_1, hm1_1, hm2_1, hda_1⟩, _, _, _, _, _, _, _, _, _, _, _, _, (hP_1.setL (by omega) (by omega) gl9_1 (by intro j h; grind) bl9_1 ng9_1 nk9_1), hc_1, Fk_1, F20, (FQ_1.mono (fun j h => .inl h))⟩
 clear Fk_1 F20 FQ_1
 refine V.region ?_
 refine V.ru 2 ?_
 refine V.nt ?_
 refine V.condT rfl (fun h3 => ?_) (fun h3 => ?_)
 ·
  try replace h3 := V.dec h3
  try simp only [V.mk] at h3
  have hap : appOk d.L d.te x := by unfold appE at h3; split at h3 <;> first | assumption | cases h3
  refine V.region ?_
  refine V.ru 2 ?_
  replace Fk7 := Fk7.gr g0
  replace Fk7 := Fk7.ma G33
  replace Fk7 := Fk7.ma G34
  refine V.loadO T_ok Fk7 rfl rfl rfl rfl rfl ?_
  refine V.mkStruct T_ok zero113 rfl rfl rfl rfl rfl ?_
  replace F4e := F4e.gr g0
  replace F4e := F4e.mv1 G33 (by (try dsimp only [V.In]); first | omega | grind)
  replace F4e := F4e.mv1 G34 (by (try dsimp only [V.In]); first | omega | grind)
  refine V.call (keep_spec (kn := 2) (ix := (appI d.L d.te x)) (tm := 0) (et := d.te) F37 F4e.sl (by intro k h; (try dsimp only [V.In] at h ⊢); first | omega | grind) (Sl.nil _ _ V.None' _ _ (Nat.zero_le _)) (fun _ h => h.elim)  (by intro j h; first | exact h.elim | (have a1 := hM j; (try dsimp only [V.In] at h); grind)) (by intro j h; first | exact h.elim | (have a1 := hM j; (try dsimp only [V.In] at h); grind)) (by first | assumption | omega | (dsimp only [turnV]; omega))) rfl rfl rfl ?_
  rintro _ w43 ⟨M38, D39, rfl, F40, h41, h42, G44⟩
  have z45 := V.FrE.size G44
  refine V.nt ?_
  refine V.sr ?_
  refine V.ru 4 ?_
  refine V.nt ?_
  refine V.ret ?_
  rw [show moreV d x = keepV ({ d with L := appV d.L d.te x }) from if_pos hap]
  refine V.done rfl ?_
  replace HG := HG.grow G9
  replace HG := HG.n1 G14 (by first | (refine Or.inr ?_; omega) | (refine Or.inl ?_; first | assumption | (dsimp only; grind)) | grind)
  replace HG := HG.grow g0
  replace HG := HG.n1 G33 (by first | (refine Or.inr ?_; omega) | (refine Or.inl ?_; first | assumption | (dsimp only; grind)) | grind)
  replace HG := HG.n1 G34 (by first | (refine Or.inr ?_; omega) | (refine Or.inl ?_; first | assumption | (dsimp only; grind)) | grind)
  replace HG := HG.stepE G44 (by intro i h; (try dsimp only [V.In] at h ⊢); first | omega | grind)
  exact ⟨_, _, (by first | rfl | simp only [List.length_set]), F40, (by intro j h; (try dsimp only [V.In] at *); grind), (by intro j h; (try dsimp only [V.In] at *); grind), HG⟩
 ·
  try replace h3 := V.dec h3
  try simp only [V.mk] at h3
  have hap : ¬ appOk d.L d.te x := fun hc => h3 (if_pos hc)
  refine V.skip ?_
  refine V.tN ?_
  refine V.sr ?_
  refine V.ru 4 ?_
  refine V.nt ?_
  refine V.ret ?_
  rw [show moreV d x = { d with L := appV d.L d.te x } from (if_neg hap).trans (by rw [show appV d.L d.te x = d.L from if_neg hap])]
  refine V.done rfl ?_
  replace HG := HG.grow G9
  replace HG := HG.n1 G14 (by first | (refine Or.inr ?_; omega) | (refine Or.inl ?_; first | assumption | (dsimp only; grind)) | grind)
  replace HG := HG.grow g0
  replace HG := HG.n1 G33 (by first | (refine Or.inr ?_; omega) | (refine Or.inl ?_; first | assumption | (dsimp only; grind)) | grind)
  replace HG := HG.n1 G34 (by first | (refine Or.inr ?_; omega) | (refine Or.inl ?_; first | assumption | (dsimp only; grind)) | grind)
  exact ⟨_, _, (by first | rfl | simp only [List.length_set]), F37, (by intro j h; (try dsimp only [V.In] at *); grind), (by intro j h; (try dsimp only [V.In] at *); grind), HG⟩

set_option maxHeartbeats 4000000 in
set_option maxRecDepth 10000 in
theorem prop_spec {w : World} {k : Nat} {M D : Nat → Prop} {d : NodeV} (FX : Nd w k M D d) {D_x : Nat → Prop} {c_x : Nat} {a_x : Option Addr} {x : List UInt8} (F_x : Sl V.Cod.byte w D_x a_x c_x x) (hD_x : ∀ k, D_x k → k < w.heap.size) (hs : d.out.length + 3 ≤ 1000000) (hn : d.nc + 1 ≤ 1000000) (hL : d.L.l.length + 1 ≤ 1000000) (hx : x.length ≤ 1000000) :
    Meets Try.prog 25 [.pointer (some ⟨k, 0, none⟩), .slice a_x x.length c_x] w fun r w' => ∃ (rM21 : Nat → Prop) (rD21 : Nat → Prop), r = .tuple #[.int .i64 (propI d x), .int .i64 (propT d x), .int .i64 (propE d x)] ∧ Nd w' k rM21 rD21 (propV d x) ∧ (∀ j, rM21 j → M j ∨ w.heap.size ≤ j) ∧ (∀ j, rD21 j → D j ∨ M j ∨ w.heap.size ≤ j) ∧ V.FrE M w w' := by
 have hM := FX.lm
 have hk0 := FX.lm _ FX.mk'
 have hD := FX.ld
 have hMD := FX.dj
 have hMk := FX.mk'
 have HG := V.FrE.refl M w
 refine V.enter (n := 35) Try.func25 rfl rfl (by decide) rfl ?_
 refine V.sr ?_
 refine V.ru 3 ?_
 refine V.nt ?_
 refine V.seq ?_
 refine V.block ?_
 refine V.sr ?_
 refine V.ru 3 ?_
 refine V.nt ?_
 refine V.condN rfl rfl ?_
 refine V.seq ?_
 obtain ⟨kl_1, g_1, B_1, SO_1, SC_1, ad_1, cd_1, ao_1, co_1, ac_1, cc_1, ch_1, hP_1, hc_1, Fk_1, FL_1, FQ_1⟩ := FX.ex
 obtain ⟨hid_1, hrg_1, hte_1, hco_1, hx0_1, hx1_1, hx2_1, hm0_1, hm1_1, hm2_1, hda_1⟩ := FX.ok
 have nk_1 := hP_1.nk
 have nl_1 := hP_1.nl
 have ng_1 := hP_1.ng
 have kL_1 := hP_1.kL
 have lq_1 := hP_1.lq
 have bd_1 := hP_1.d
 obtain ⟨mk_1, ml_1, mg_1⟩ := hP_1.m
 have hA_1 := hP_1.a
 have lm_1 := hP_1.lm
 have ld_1 := hP_1.ld
 have hLo_1 := FL_1.ok
 have hLd_1 := FL_1.dl
 have hLg_1 := FL_1.gl
 have hLk_1 := FL_1.lt
 have hLb_1 := FL_1.bl
 have hkl_1 := Fk_1.lt
 refine V.region ?_
 refine V.ru 3 ?_
 refine V.loadO T_ok Fk_1 rfl rfl rfl rfl rfl ?_
 refine V.ru 2 ?_
 refine V.nt ?_
 refine V.condT rfl (fun h3 => ?_) (fun h3 => ?_)
 ·
  try replace h3 := V.dec h3
  try simp only [V.mk] at h3
  
  refine V.sr ?_
  refine V.ru 3 ?_
  refine V.nt ?_
  refine V.ret ?_
  refine V.bR ?_
  refine V.tR ?_
  rw [show propV d x = d from if_neg h3, show propI d x = 0 from if_neg (fun e => h3 e.1), show propT d x = 0 from if_neg (fun e => h3 e.1), show propE d x = 161 from if_neg h3]
  refine V.done rfl ?_
  exact ⟨_, _, (by first | rfl | simp only [List.length_set]), FX, (by intro j h; (try dsimp only [V.In] at *); grind), (by intro j h; (try dsimp only [V.In] at *); grind), HG⟩
 ·
  try replace h3 := V.dec h3
  try simp only [V.mk] at h3
  have hro : d.ro = 2 := by first | exact h3 | exact Decidable.not_not.1 h3
  refine V.skip ?_
  refine V.bN ?_
  refine V.tN ?_
  refine V.sr ?_
  refine V.ru 2 ?_
  refine V.call (more_spec FX F_x (fun k hk => by have := hD_x k hk; omega) (by first | assumption | omega) (by first | assumption | omega) (by first | assumption | omega | simp)) rfl rfl rfl ?_
  rintro _ w7 ⟨M2, D3, rfl, F4, h5, h6, G8⟩
  have z9 := V.FrE.size G8
  refine V.ru 5 ?_
  refine V.nt ?_
  refine V.seq ?_
  refine V.sr ?_
  refine V.ru 2 ?_
  refine V.nt ?_
  refine V.condT rfl (fun h6 => ?_) (fun h6 => ?_)
  ·
   try replace h6 := V.dec h6
   try simp only [V.mk] at h6
   
   refine V.sr ?_
   refine V.ru 3 ?_
   refine V.nt ?_
   refine V.ret ?_
   refine V.tR ?_
   have hap : ¬ appOk d.L d.te x := fun hc => h6 (if_pos hc)
   have hmv : moreV d x = d := if_neg hap
   rw [hmv] at F4
   rw [show propV d x = d from (if_pos hro).trans (if_neg hap), show propI d x = 0 from if_neg (fun e => hap e.2), show propT d x = 0 from if_neg (fun e => hap e.2), show propE d x = 151 from (if_pos hro).trans (if_neg hap)]
   refine V.done rfl ?_
   replace HG := HG.stepE G8 (by intro i h; (try dsimp only [V.In] at h ⊢); first | omega | grind)
   exact ⟨_, _, (by first | rfl | simp only [List.length_set]), F4, (by intro j h; (try dsimp only [V.In] at *); grind), (by intro j h; (try dsimp only [V.In] at *); grind), HG⟩
  ·
   try replace h6 := V.dec h6
   try simp only [V.mk] at h6
   have hap : appOk d.L d.te x := by (have h6b : appE d.L d.te x = 0 := by first | exact h6 | exact Decidable.not_not.1 h6); unfold appE at h6b; split at h6b <;> first | assumption | cases h6b
   refine V.skip ?_
   refine V.tN ?_
   refine V.seq ?_
   have hmo : (moreV d x).out.length + 3 ≤ 1000000 := by rw [show (moreV d x).out = d.out by unfold moreV; split <;> rfl]; exact hs
   refine V.region ?_
   refine V.ru 3 ?_
   refine V.call (oth_send F4 (by first | assumption | omega)) rfl rfl rfl ?_
   rintro _ w15 ⟨M10, D11, rfl, F12, h13, h14, G16⟩
   have z17 := V.FrE.size G16
   refine V.nt ?_
   refine V.seq ?_
   obtain ⟨kl_18, g_18, B_18, SO_18, SC_18, ad_18, cd_18, ao_18, co_18, ac_18, cc_18, ch_18, hP_18, hc_18, Fk_18, FL_18, FQ_18⟩ := F12.ex
   obtain ⟨hid_18, hrg_18, hte_18, hco_18, hx0_18, hx1_18, hx2_18, hm0_18, hm1_18, hm2_18, hda_18⟩ := F12.ok
   have nk_18 := hP_18.nk
   have nl_18 := hP_18.nl
   have ng_18 := hP_18.ng
   have kL_18 := hP_18.kL
   have lq_18 := hP_18.lq
   have bd_18 := hP_18.d
   obtain ⟨mk_18, ml_18, mg_18⟩ := hP_18.m
   have hA_18 := hP_18.a
   have lm_18 := hP_18.lm
   have ld_18 := hP_18.ld
   have hLo_18 := FL_18.ok
   have hLd_18 := FL_18.dl
   have hLg_18 := FL_18.gl
   have hLk_18 := FL_18.lt
   have hLb_18 := FL_18.bl
   have hkl_18 := Fk_18.lt
   refine V.drawQ mixed (by kernel_rfl) ?_
   refine V.qrun T_ok 4 rfl ?_
   refine V.qloadO T_ok Fk_18 rfl rfl rfl rfl rfl ?_
   refine V.qrun T_ok 3 rfl ?_
   refine V.qnil ?_
   rintro w19 G20
   have z21 := V.Fr.size G20
   refine V.tN ?_
   refine V.ret ?_
   rw [show propV d x = othV sendV (moreV d x) 3 from (if_pos hro).trans (if_pos hap), show propI d x = appI d.L d.te x from (if_pos ⟨hro, hap⟩).trans (if_pos hap).symm, show propT d x = (othV sendV (moreV d x) 3).te from if_pos ⟨hro, hap⟩, show propE d x = 0 from (if_pos hro).trans (if_pos hap)]
   refine V.done rfl ?_
   replace F12 := F12.gr G20
   replace HG := HG.stepE G8 (by intro i h; (try dsimp only [V.In] at h ⊢); first | omega | grind)
   replace HG := HG.stepE G16 (by intro i h; (try dsimp only [V.In] at h ⊢); first | omega | grind)
   replace HG := HG.grow G20
   exact ⟨_, _, (by first | rfl | simp only [List.length_set]), F12, (by intro j h; (try dsimp only [V.In] at *); grind), (by intro j h; (try dsimp only [V.In] at *); grind), HG⟩

end Go.Proofs.Ytphohfpbdkgnaaa
