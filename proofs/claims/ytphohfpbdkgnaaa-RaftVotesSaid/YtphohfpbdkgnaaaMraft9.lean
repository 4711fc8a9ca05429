/- Proved here: walks: what functions of this seat's program return and what they leave of memory, each as a contract. Conditions: stated at each theorem. -/
import Derived.Test.YtphohfpbdkgnaaaMraft8
namespace Go.Proofs.Ytphohfpbdkgnaaa
set_option linter.unusedVariables false
set_option linter.unusedSimpArgs false
open Go
open V (Bytes Meets Env Sl Own Gr Fr Cells S)
set_option maxHeartbeats 4000000 in
set_option maxRecDepth 10000 in
theorem had1_spec {w : World} {k : Nat} {M D : Nat → Prop} {d : NodeV} (FX : Nd w k M D d) {ke kb ki : Nat} {i : Int} {b0 : Bool} (Fe : Cells w ke [.bool b0] 4) (Fb : Cells w kb [.pointer (some ⟨k, 0, none⟩)] 33) (Fi : Cells w ki [.int .i64 i] 3) {kk : Int} (ht : 0 ≤ kk ∧ kk ≤ 2) (hke : ke ≠ k) (hkb : ke ≠ kb) (hki : ke ≠ ki) :
    Meets Try.prog 65 [.int .i64 kk, .pointer (some ⟨ke, 0, none⟩), .pointer (some ⟨kb, 0, none⟩), .pointer (some ⟨ki, 0, none⟩)] w fun r w' => r = .tuple #[] ∧ Cells w' ke [.bool (b0 || decide (i ≤ getM d kk))] 4 ∧ Fr [ke] w w' := by
 have hM := FX.lm
 have hk0 := FX.lm _ FX.mk'
 have hD := FX.ld
 have hMD := FX.dj
 have hMk := FX.mk'
 have hel := Fe.lt
 have hbl := Fb.lt
 have hil := Fi.lt
 have HG := V.Fr.refl [ke] w
 refine V.enter (n := 16) Try.func65 rfl rfl (by decide) rfl ?_
 rcases (show kk = 0 ∨ kk = 1 ∨ kk = 2 by omega) with rfl | rfl | rfl
 ·
  obtain ⟨kl_1, g_1, B_1, SO_1, SC_1, ad_1, cd_1, ao_1, co_1, ac_1, cc_1, ch_1, hP_1, hc_1, Fk_1, FL_1, FQ_1⟩ := FX.ex
  obtain ⟨hid_1, hrg_1, hte_1, hco_1, hx0_1, hx1_1, hx2_1, hm0_1, hm1_1, hm2_1, hda_1⟩ := FX.ok
  have nk_1 := hP_1.nk
  have nl_1 := hP_1.nl
  have ng_1 := hP_1.ng
  have kL_1 := hP_1.kL
  have lq_1 := hP_1.lq
  have bd_1 := hP_1.d
  obtain ⟨mk_1, ml_1, mg_1⟩ := hP_1.m
  have hA_1 := hP_1.a
  have lm_1 := hP_1.lm
  have ld_1 := hP_1.ld
  have hLo_1 := FL_1.ok
  have hLd_1 := FL_1.dl
  have hLg_1 := FL_1.gl
  have hLk_1 := FL_1.lt
  have hLb_1 := FL_1.bl
  have hkl_1 := Fk_1.lt
  refine V.drawT 11 mixed (by kernel_rfl) ?_
  rintro w2 G3 s4
  have z5 := V.Fr.size G3
  replace Fe := Fe.gr G3
  refine V.qloadO T_ok Fe rfl rfl rfl rfl rfl ?_
  refine V.qrun T_ok 1 rfl ?_
  refine V.qsplit (j := 1) (t := 6) rfl rfl (fun g0_1 => ?_) (fun g0_1 => ?_)
  ·
   try replace g0_1 := V.dec g0_1
   try simp only [V.mk] at g0_1
   refine V.qrun T_ok 9 rfl ?_
   refine V.qnil ?_
   refine V.storeO Fe rfl rfl rfl rfl sz4 rfl rfl rfl rfl ?_
   rintro w6 G7 z9 Fs8
   clear Fe
   have z10 := V.Fr.size G7
   have Fe := Fs8; clear Fs8
   simp only [V.spliceL, V.cellsL] at Fe
   refine V.nil ?_
   refine V.doneN rfl ?_
   have hbe : (b0 || decide (i ≤ getM d 0)) = true := by (rw [g0_1]; rfl)
   rw [hbe]
   replace HG := HG.grow G3
   replace HG := HG.n1 G7
   exact ⟨(by first | rfl | simp only [List.length_set]), Fe, HG⟩
  ·
   try replace g0_1 := V.dec g0_1
   try simp only [V.mk] at g0_1
   refine V.qyes rfl rfl rfl ?_
   replace Fb := Fb.gr G3
   refine V.qloadO T_ok Fb rfl rfl rfl rfl rfl ?_
   refine V.qrun T_ok 3 rfl ?_
   refine V.qyes rfl rfl rfl ?_
   refine V.qelemP T_ok rfl rfl rfl rfl rfl rfl (by first | omega | decide) (by first | omega | decide) ?_
   refine V.qyes rfl rfl rfl ?_
   replace Fk_1 := Fk_1.gr G3
   refine V.qloadO T_ok Fk_1 rfl rfl rfl rfl rfl ?_
   refine V.qyes rfl rfl rfl ?_
   replace Fi := Fi.gr G3
   refine V.qloadO T_ok Fi rfl rfl rfl rfl rfl ?_
   refine V.qrun T_ok 2 rfl ?_
   refine V.qnil ?_
   refine V.storeO Fe rfl rfl rfl rfl sz4 rfl rfl rfl rfl ?_
   rintro w11 G12 z14 Fs13
   clear Fe
   have z15 := V.Fr.size G12
   have Fe := Fs13; clear Fs13
   simp only [V.spliceL, V.cellsL] at Fe
   refine V.nil ?_
   refine V.doneN rfl ?_
   have hbe : (b0 || decide (i ≤ getM d 0)) = decide (i ≤ d.m0) := by (rw [g0_1]; rfl)
   rw [hbe]
   replace HG := HG.grow G3
   replace HG := HG.n1 G12
   exact ⟨(by first | rfl | simp only [List.length_set]), Fe, HG⟩
 ·
  obtain ⟨kl_16, g_16, B_16, SO_16, SC_16, ad_16, cd_16, ao_16, co_16, ac_16, cc_16, ch_16, hP_16, hc_16, Fk_16, FL_16, FQ_16⟩ := FX.ex
  obtain ⟨hid_16, hrg_16, hte_16, hco_16, hx0_16, hx1_16, hx2_16, hm0_16, hm1_16, hm2_16, hda_16⟩ := FX.ok
  have nk_16 := hP_16.nk
  have nl_16 := hP_16.nl
  have ng_16 := hP_16.ng
  have kL_16 := hP_16.kL
  have lq_16 := hP_16.lq
  have bd_16 := hP_16.d
  obtain ⟨mk_16, ml_16, mg_16⟩ := hP_16.m
  have hA_16 := hP_16.a
  have lm_16 := hP_16.lm
  have ld_16 := hP_16.ld
  have hLo_16 := FL_16.ok
  have hLd_16 := FL_16.dl
  have hLg_16 := FL_16.gl
  have hLk_16 := FL_16.lt
  have hLb_16 := FL_16.bl
  have hkl_16 := Fk_16.lt
  refine V.drawT 11 mixed (by kernel_rfl) ?_
  rintro w17 G18 s19
  have z20 := V.Fr.size G18
  replace Fe := Fe.gr G18
  refine V.qloadO T_ok Fe rfl rfl rfl rfl rfl ?_
  refine V.qrun T_ok 1 rfl ?_
  refine V.qsplit (j := 1) (t := 6) rfl rfl (fun g0_1 => ?_) (fun g0_1 => ?_)
  ·
   try replace g0_1 := V.dec g0_1
   try simp only [V.mk] at g0_1
   refine V.qrun T_ok 9 rfl ?_
   refine V.qnil ?_
   refine V.storeO Fe rfl rfl rfl rfl sz4 rfl rfl rfl rfl ?_
   rintro w21 G22 z24 Fs23
   clear Fe
   have z25 := V.Fr.size G22
   have Fe := Fs23; clear Fs23
   simp only [V.spliceL, V.cellsL] at Fe
   refine V.nil ?_
   refine V.doneN rfl ?_
   have hbe : (b0 || decide (i ≤ getM d 1)) = true := by (rw [g0_1]; rfl)
   rw [hbe]
   replace HG := HG.grow G18
   replace HG := HG.n1 G22
   exact ⟨(by first | rfl | simp only [List.length_set]), Fe, HG⟩
  ·
   try replace g0_1 := V.dec g0_1
   try simp only [V.mk] at g0_1
   refine V.qyes rfl rfl rfl ?_
   replace Fb := Fb.gr G18
   refine V.qloadO T_ok Fb rfl rfl rfl rfl rfl ?_
   refine V.qrun T_ok 3 rfl ?_
   refine V.qyes rfl rfl rfl ?_
   refine V.qelemP T_ok rfl rfl rfl rfl rfl rfl (by first | omega | decide) (by first | omega | decide) ?_
   refine V.qyes rfl rfl rfl ?_
   replace Fk_16 := Fk_16.gr G18
   refine V.qloadO T_ok Fk_16 rfl rfl rfl rfl rfl ?_
   refine V.qyes rfl rfl rfl ?_
   replace Fi := Fi.gr G18
   refine V.qloadO T_ok Fi rfl rfl rfl rfl rfl ?_
   refine V.qrun T_ok 2 rfl ?_
   refine V.qnil ?_
   refine V.storeO Fe rfl rfl rfl rfl sz4 rfl rfl rfl rfl ?_
   rintro w26 G27 z29 Fs28
   clear Fe
   have z30 := V.Fr.size G27
   have Fe := Fs28; clear Fs28
   simp only [V.spliceL, V.cellsL] at Fe
   refine V.nil ?_
   refine V.doneN rfl ?_
   have hbe : (b0 || decide (i ≤ getM d 1)) = decide (i ≤ d.m1) := by (rw [g0_1]; rfl)
   rw [hbe]
   replace HG := HG.grow G18
   replace HG := HG.n1 G27
   exact ⟨(by first | rfl | simp only [List.length_set]), Fe, HG⟩
 ·
  obtain ⟨kl_31, g_31, B_31, SO_31, SC_31, ad_31, cd_31, ao_31, co_31, ac_31, cc_31, ch_31, hP_31, hc_31, Fk_31, FL_31, FQ_31⟩ := FX.ex
  obtain ⟨hid_31, hrg_31, hte_31, hco_31, hx0_31, hx1_31, hx2_31, hm0_31, hm1_31, hm2_31, hda_31⟩ := FX.ok
  have nk_31 := hP_31.nk
  have nl_31 := hP_31.nl
  have ng_31 := hP_31.ng
  have kL_31 := hP_31.kL
  have lq_31 := hP_31.lq
  have bd_31 := hP_31.d
  obtain ⟨mk_31, ml_31, mg_31⟩ := hP_31.m
  have hA_31 := hP_31.a
  have lm_31 := hP_31.lm
  have ld_31 := hP_31.ld
  have hLo_31 := FL_31.ok
  have hLd_31 := FL_31.dl
  have hLg_31 := FL_31.gl
  have hLk_31 := FL_31.lt
  have hLb_31 := FL_31.bl
  have hkl_31 := Fk_31.lt
  refine V.drawT 11 mixed (by kernel_rfl) ?_
  rintro w32 G33 s34
  have z35 := V.Fr.size G33
  replace Fe := Fe.gr G33
  refine V.qloadO T_ok Fe rfl rfl rfl rfl rfl ?_
  refine V.qrun T_ok 1 rfl ?_
  refine V.qsplit (j := 1) (t := 6) rfl rfl (fun g0_1 => ?_) (fun g0_1 => ?_)
  ·
   try replace g0_1 := V.dec g0_1
   try simp only [V.mk] at g0_1
   refine V.qrun T_ok 9 rfl ?_
   refine V.qnil ?_
   refine V.storeO Fe rfl rfl rfl rfl sz4 rfl rfl rfl rfl ?_
   rintro w36 G37 z39 Fs38
   clear Fe
   have z40 := V.Fr.size G37
   have Fe := Fs38; clear Fs38
   simp only [V.spliceL, V.cellsL] at Fe
   refine V.nil ?_
   refine V.doneN rfl ?_
   have hbe : (b0 || decide (i ≤ getM d 2)) = true := by (rw [g0_1]; rfl)
   rw [hbe]
   replace HG := HG.grow G33
   replace HG := HG.n1 G37
   exact ⟨(by first | rfl | simp only [List.length_set]), Fe, HG⟩
  ·
   try replace g0_1 := V.dec g0_1
   try simp only [V.mk] at g0_1
   refine V.qyes rfl rfl rfl ?_
   replace Fb := Fb.gr G33
   refine V.qloadO T_ok Fb rfl rfl rfl rfl rfl ?_
   refine V.qrun T_ok 3 rfl ?_
   refine V.qyes rfl rfl rfl ?_
   refine V.qelemP T_ok rfl rfl rfl rfl rfl rfl (by first | omega | decide) (by first | omega | decide) ?_
   refine V.qyes rfl rfl rfl ?_
   replace Fk_31 := Fk_31.gr G33
   refine V.qloadO T_ok Fk_31 rfl rfl rfl rfl rfl ?_
   refine V.qyes rfl rfl rfl ?_
   replace Fi := Fi.gr G33
   refine V.qloadO T_ok Fi rfl rfl rfl rfl rfl ?_
   refine V.qrun T_ok 2 rfl ?_
   refine V.qnil ?_
   refine V.storeO Fe rfl rfl rfl rfl sz4 rfl rfl rfl rfl ?_
   rintro w41 G42 z44 Fs43
   clear Fe
   have z45 := V.Fr.size G42
   have Fe := Fs43; clear Fs43
   simp only [V.spliceL, V.cellsL] at Fe
   refine V.nil ?_
   refine V.doneN rfl ?_
   have hbe : (b0 || decide (i ≤ getM d 2)) = decide (i ≤ d.m2) := by (rw [g0_1]; rfl)
   rw [hbe]
   replace HG := HG.grow G33
   replace HG := HG.n1 G42
   exact ⟨(by first | rfl | simp only [List.length_set]), Fe, HG⟩

set_option maxHeartbeats 4000000 in
set_option maxRecDepth 10000 in
theorem oth_had {w : World} {k : Nat} {M D : Nat → Prop} {d : NodeV} (FX : Nd w k M D d) {ke kb ki : Nat} {i : Int} (Fe : Cells w ke [.bool false] 4) (Fb : Cells w kb [.pointer (some ⟨k, 0, none⟩)] 33) (Fi : Cells w ki [.int .i64 i] 3)  (hnm : ¬ M ke) (hnd : ¬ D ke) (hke : ke ≠ k) (hkb : ke ≠ kb) (hki : ke ≠ ki) :
    Meets Try.prog 41 [.pointer (some ⟨k, 0, none⟩), .func (.func 65) #[] #[.pointer (some ⟨ke, 0, none⟩), .pointer (some ⟨kb, 0, none⟩), .pointer (some ⟨ki, 0, none⟩)]] w fun r w' => r = .tuple #[] ∧ Cells w' ke [.bool (elseV d i 3)] 4 ∧ Fr [ke] w w' := by
 have hM := FX.lm
 have hk0 := FX.lm _ FX.mk'
 have hD := FX.ld
 have hMD := FX.dj
 have hMk := FX.mk'
 have hel := Fe.lt
 have hbl := Fb.lt
 have hil := Fi.lt
 have HG := V.Fr.refl [ke] w
 refine V.enter (n := 18) Try.func41 rfl rfl (by decide) rfl ?_
 refine V.sr ?_
 refine V.ru 1 ?_
 refine V.nt ?_
 refine V.block ?_
 refine V.loopM (fun m e v2 => Fr [ke] w v2 ∧ w.heap.size ≤ v2.heap.size ∧ Nd v2 k M D d ∧ Cells v2 kb [.pointer (some ⟨k, 0, none⟩)] 33 ∧ Cells v2 ki [.int .i64 i] 3 ∧ ∃ (j : Nat) , m = 3 - j ∧ j ≤ 3 ∧ Cells v2 ke [.bool (elseV d i j)] 4 ∧ e 0 = .pointer (some ⟨k, 0, none⟩) ∧ e 1 = .func (.func 65) #[] #[.pointer (some ⟨ke, 0, none⟩), .pointer (some ⟨kb, 0, none⟩), .pointer (some ⟨ki, 0, none⟩)] ∧ e 5 = .int .i64 (j : Int)) ?_ ?_
 ·
  exact ⟨_, HG, (by omega), FX, Fb, Fi, (0), rfl, (Nat.zero_le _), Fe, rfl, rfl, rfl⟩
 clear HG FX Fb Fi Fe
 rintro _ e v2 ⟨HG, z3, FX, Fb, Fi, j, rfl, hj, Fe, he0_0, he0_1, he0_5⟩
 refine V.knownC (t := 0) he0_0 ?_
 refine V.knownC (t := 1) he0_1 ?_
 refine V.knownC (t := 5) he0_5 ?_
 refine V.sr ?_
 refine V.ru 1 ?_
 refine V.nt ?_
 refine V.seq ?_
 refine V.condT rfl (fun h1 => ?_) (fun h1 => ?_)
 ·
  try replace h1 := V.dec h1
  try simp only [V.mk] at h1
  refine V.skip ?_
  refine V.tN ?_
  refine V.seq ?_
  refine V.block ?_
  refine V.sr ?_
  refine V.ru 2 ?_
  refine V.nt ?_
  refine V.seq ?_
  obtain ⟨kl_4, g_4, B_4, SO_4, SC_4, ad_4, cd_4, ao_4, co_4, ac_4, cc_4, ch_4, hP_4, hc_4, Fk_4, FL_4, FQ_4⟩ := FX.ex
  obtain ⟨hid_4, hrg_4, hte_4, hco_4, hx0_4, hx1_4, hx2_4, hm0_4, hm1_4, hm2_4, hda_4⟩ := FX.ok
  have nk_4 := hP_4.nk
  have nl_4 := hP_4.nl
  have ng_4 := hP_4.ng
  have kL_4 := hP_4.kL
  have lq_4 := hP_4.lq
  have bd_4 := hP_4.d
  obtain ⟨mk_4, ml_4, mg_4⟩ := hP_4.m
  have hA_4 := hP_4.a
  have lm_4 := hP_4.lm
  have ld_4 := hP_4.ld
  have hLo_4 := FL_4.ok
  have hLd_4 := FL_4.dl
  have hLg_4 := FL_4.gl
  have hLk_4 := FL_4.lt
  have hLb_4 := FL_4.bl
  have hkl_4 := Fk_4.lt
  refine V.region ?_
  refine V.ru 4 ?_
  refine V.loadO T_ok Fk_4 rfl rfl rfl rfl rfl ?_
  refine V.ru 1 ?_
  refine V.nt ?_
  refine V.condT rfl (fun h3 => ?_) (fun h3 => ?_)
  ·
   try replace h3 := V.dec h3
   try simp only [V.mk] at h3
   refine V.region ?_
   refine V.ru 2 ?_
   refine V.call (had1_spec (kk := (j : Int)) (FX := FX) (Fe := Fe) (Fb := Fb) (Fi := Fi) ⟨by omega, by omega⟩ (by omega) (by omega) (by omega)) rfl rfl rfl ?_
   rintro _ w6 ⟨rfl, F5, G7⟩
   have z8 := V.Fr.size G7
   refine V.nil ?_
   refine V.bN ?_
   refine V.tN ?_
   refine V.region ?_
   refine V.addN rfl rfl rfl rfl rfl V.lenA V.lenA ?_
   refine V.ru 1 ?_
   refine V.nt ?_
   have hel : ((elseV d i j) || decide (i ≤ getM d (j : Int))) = elseV d i (j + 1) := by rw [elseV, if_neg h3]
   rw [hel] at F5
   replace FX := FX.mv1 G7 (by (try dsimp only [V.In]); first | omega | grind)
   replace Fb := Fb.ma G7
   replace Fi := Fi.ma G7
   replace HG := HG.n1 G7
   exact ⟨_, (by omega), HG, (by omega), FX, Fb, Fi, (j + 1), rfl, (by omega), F5, rfl, rfl, rfl⟩
  ·
   try replace h3 := V.dec h3
   try simp only [V.mk] at h3
   refine V.skip ?_
   refine V.bN ?_
   refine V.tN ?_
   refine V.region ?_
   refine V.addN rfl rfl rfl rfl rfl V.lenA V.lenA ?_
   refine V.ru 1 ?_
   refine V.nt ?_
   have hel : (elseV d i j) = elseV d i (j + 1) := by rw [elseV, if_pos (by first | exact h3 | exact Decidable.not_not.1 h3)]
   rw [hel] at Fe
   exact ⟨_, (by omega), HG, (by omega), FX, Fb, Fi, (j + 1), rfl, (by omega), Fe, rfl, rfl, rfl⟩
 ·
  try replace h1 := V.dec h1
  try simp only [V.mk] at h1
  refine V.exit ?_
  refine V.tX ?_
  refine V.tX ?_
  refine V.bE ?_
  refine V.doneN rfl ?_
  obtain rfl : j = 3 := by omega
  exact ⟨(by first | rfl | simp only [List.length_set]), Fe, HG⟩

set_option maxHeartbeats 4000000 in
set_option maxRecDepth 10000 in
theorem had_spec {w : World} {k : Nat} {M D : Nat → Prop} {d : NodeV} (FX : Nd w k M D d) {i : Int}  :
    Meets Try.prog 62 [.pointer (some ⟨k, 0, none⟩), .int .i64 i] w fun r w' => r = .bool (hadV d i) ∧ Gr w w' := by
 have hM := FX.lm
 have hk0 := FX.lm _ FX.mk'
 have hD := FX.ld
 have hMD := FX.dj
 have hMk := FX.mk'
 have HG := V.Fr.refl [] w
 refine V.enter (n := 32) Try.func62 rfl rfl (by decide) rfl ?_
 refine V.sr ?_
 refine V.box rfl rfl rfl rfl ?_
 rintro k1 w3 s5 s6 G4 Fk2
 have z7 := V.Fr.size G4
 try simp only [V.cellsL, V.spliceL] at Fk2
 refine V.box rfl rfl rfl rfl ?_
 rintro k8 w10 s12 s13 G11 Fk9
 have z14 := V.Fr.size G11
 try simp only [V.cellsL, V.spliceL] at Fk9
 refine V.ru 1 ?_
 refine V.nt ?_
 refine V.seq ?_
 replace FX := FX.gr (G4.trans G11)
 obtain ⟨kl_15, g_15, B_15, SO_15, SC_15, ad_15, cd_15, ao_15, co_15, ac_15, cc_15, ch_15, hP_15, hc_15, Fk_15, FL_15, FQ_15⟩ := FX.ex
 obtain ⟨hid_15, hrg_15, hte_15, hco_15, hx0_15, hx1_15, hx2_15, hm0_15, hm1_15, hm2_15, hda_15⟩ := FX.ok
 have nk_15 := hP_15.nk
 have nl_15 := hP_15.nl
 have ng_15 := hP_15.ng
 have kL_15 := hP_15.kL
 have lq_15 := hP_15.lq
 have bd_15 := hP_15.d
 obtain ⟨mk_15, ml_15, mg_15⟩ := hP_15.m
 have hA_15 := hP_15.a
 have lm_15 := hP_15.lm
 have ld_15 := hP_15.ld
 have hLo_15 := FL_15.ok
 have hLd_15 := FL_15.dl
 have hLg_15 := FL_15.gl
 have hLk_15 := FL_15.lt
 have hLb_15 := FL_15.bl
 have hkl_15 := Fk_15.lt
 refine V.drawQ mixed (by kernel_rfl) ?_
 replace Fk2 := Fk2.gr G11
 refine V.qloadO T_ok Fk2 rfl rfl rfl rfl rfl ?_
 refine V.qrun T_ok 2 rfl ?_
 refine V.qloadO T_ok Fk_15 rfl rfl rfl rfl rfl ?_
 refine V.qloadO T_ok Fk9 rfl rfl rfl rfl rfl ?_
 refine V.qcall V.clo (fun w1 g => (term_spec (i := i) (FL_15.gr g))) rfl rfl rfl ?_
 refine V.qrun T_ok 5 rfl ?_
 refine V.qnil ?_
 rintro w16 G17
 have z18 := V.Fr.size G17
 refine V.tN ?_
 refine V.sr ?_
 refine V.alloc zero4 rfl rfl rfl ?_
 rintro k19 w21 s23 s24 G22 Fk20
 have z25 := V.Fr.size G22
 try simp only [V.cellsL, V.spliceL] at Fk20
 refine V.storeO Fk20 rfl rfl rfl rfl sz4 rfl rfl rfl rfl ?_
 rintro w26 G27 z29 Fs28
 clear Fk20
 have z30 := V.Fr.size G27
 have Fk20 := Fs28; clear Fs28
 simp only [V.spliceL, V.cellsL] at Fk20
 refine V.nt ?_
 refine V.sr ?_
 replace Fk2 := Fk2.gr (G17.trans G22)
 replace Fk2 := Fk2.ma G27
 refine V.loadO T_ok Fk2 rfl rfl rfl rfl rfl ?_
 refine V.ru 1 ?_
 replace FX := FX.gr (G17.trans G22)
 replace FX := FX.mv1 G27 (by (try dsimp only [V.In]); first | omega | grind)
 replace Fk9 := Fk9.gr (G17.trans G22)
 replace Fk9 := Fk9.ma G27
 refine V.call (oth_had FX (Fe := Fk20) (Fb := Fk2) (Fi := Fk9) (by intro e; have := hM _ e; omega) (by intro e; have := hD _ e; omega) (by omega) (by omega) (by omega)) rfl rfl rfl ?_
 rintro _ w32 ⟨rfl, F31, G33⟩
 have z34 := V.Fr.size G33
 refine V.nt ?_
 refine V.seq ?_
 replace FX := FX.mv1 G33 (by (try dsimp only [V.In]); first | omega | grind)
 obtain ⟨kl_35, g_35, B_35, SO_35, SC_35, ad_35, cd_35, ao_35, co_35, ac_35, cc_35, ch_35, hP_35, hc_35, Fk_35, FL_35, FQ_35⟩ := FX.ex
 obtain ⟨hid_35, hrg_35, hte_35, hco_35, hx0_35, hx1_35, hx2_35, hm0_35, hm1_35, hm2_35, hda_35⟩ := FX.ok
 have nk_35 := hP_35.nk
 have nl_35 := hP_35.nl
 have ng_35 := hP_35.ng
 have kL_35 := hP_35.kL
 have lq_35 := hP_35.lq
 have bd_35 := hP_35.d
 obtain ⟨mk_35, ml_35, mg_35⟩ := hP_35.m
 have hA_35 := hP_35.a
 have lm_35 := hP_35.lm
 have ld_35 := hP_35.ld
 have hLo_35 := FL_35.ok
 have hLd_35 := FL_35.dl
 have hLg_35 := FL_35.gl
 have hLk_35 := FL_35.lt
 have hLb_35 := FL_35.bl
 have hkl_35 := Fk_35.lt
 refine V.region ?_
 refine V.ru 2 ?_
 refine V.split (j := 1) (t := 21) rfl rfl (fun g4_1 => ?_) (fun g4_1 => ?_)
 ·
  try replace g4_1 := V.dec g4_1
  try simp only [V.mk] at g4_1
  refine V.ru 1 ?_
  refine V.yes rfl rfl rfl ?_
  replace Fk2 := Fk2.ma G33
  refine V.loadO T_ok Fk2 rfl rfl rfl rfl rfl ?_
  refine V.ru 2 ?_
  refine V.yes rfl rfl rfl ?_
  refine V.loadO T_ok Fk_35 rfl rfl rfl rfl rfl ?_
  refine V.ru 3 ?_
  refine V.split (j := 9) (t := 29) rfl rfl (fun g4_9 => ?_) (fun g4_9 => ?_)
  ·
   try replace g4_9 := V.dec g4_9
   try simp only [V.mk] at g4_9
   refine V.yes rfl rfl rfl ?_
   refine V.loadO T_ok F31 rfl rfl rfl rfl rfl ?_
   refine V.ru 2 ?_
   refine V.nt ?_
   refine V.ret ?_
   refine V.done rfl ?_
   replace HG := HG.grow (G4.trans (G11.trans (G17.trans G22)))
   replace HG := HG.n1 G27
   replace HG := HG.n1 G33
   exact ⟨(congrArg Value.bool (by first | rfl | (unfold hadV; first | rfl | (simp_all; done) | grind))), HG⟩
  ·
   try replace g4_9 := V.dec g4_9
   try simp only [V.mk] at g4_9
   refine V.ru 3 ?_
   refine V.nt ?_
   refine V.ret ?_
   refine V.done rfl ?_
   replace HG := HG.grow (G4.trans (G11.trans (G17.trans G22)))
   replace HG := HG.n1 G27
   replace HG := HG.n1 G33
   exact ⟨(congrArg Value.bool (by first | rfl | (unfold hadV; first | rfl | (simp_all; done) | grind))), HG⟩
 ·
  try replace g4_1 := V.dec g4_1
  try simp only [V.mk] at g4_1
  refine V.ru 11 ?_
  refine V.nt ?_
  refine V.ret ?_
  refine V.done rfl ?_
  replace HG := HG.grow (G4.trans (G11.trans (G17.trans G22)))
  replace HG := HG.n1 G27
  replace HG := HG.n1 G33
  exact ⟨(congrArg Value.bool (by first | rfl | (unfold hadV; first | rfl | (simp_all; done) | grind))), HG⟩

end Go.Proofs.Ytphohfpbdkgnaaa
