/- Proved here: walks: what functions of this seat's program return and what they leave of memory, each as a contract. Conditions: stated at each theorem. -/
import Derived.Test.YtphohfpbdkgnaaaMraft11
namespace Go.Proofs.Ytphohfpbdkgnaaa
set_option linter.unusedVariables false
set_option linter.unusedSimpArgs false
open Go
open V (Bytes Meets Env Sl Own Gr Fr Cells S)

def nA0 : NodeV := ⟨0, 0, 0, -1, 0, -1, ⟨0, 0, []⟩, 0, [], false, false, false, 0, 0, 0, 0, 0, 0, [], 0⟩
def nA1 : NodeV := electV nA0
theorem nA1_kd : ∀ h, (nA1.out[(1 : Int).toNat]'h).kd = 1 := by decide +kernel
theorem nA1_to : ∀ h, (nA1.out[(1 : Int).toNat]'h).to = 2 := by decide +kernel
def nA2 : NodeV := outV nA1
def nA3 : NodeV := stepV nA2 ⟨2, 2, 0, 0, 1, 0, 0, 0, true, [], []⟩
def nA4 : NodeV := propV nA3 [120]
def nA5 : NodeV := stepV nA4 ⟨4, 1, 0, 0, 1, 2, 0, 0, true, [], []⟩

set_option maxHeartbeats 4000000 in
set_option maxRecDepth 10000 in
theorem ralive_spec {w : World}    :
    Meets Try.prog 19 [] w fun r w' => r = .bool true ∧ Gr w w' := by
 have HG := V.Fr.refl [] w
 refine V.enter (n := 110) Try.func19 rfl rfl (by decide) rfl ?_
 refine V.sr ?_
 refine V.ru 1 ?_
 refine V.nt ?_
 refine V.sr ?_
 refine V.call (new_spec (b := 0) (t := 0) (by decide)) rfl rfl rfl ?_
 rintro _ w8 ⟨k1, g2, B3, rfl, ⟨h4l, h4u⟩, F5, h6, h7, G9⟩
 have z10 := V.Fr.size G9
 refine V.ru 5 ?_
 refine V.nt ?_
 refine V.sr ?_
 refine V.ru 1 ?_
 refine V.call (rnew_spec (id := 0) (rg := 0) (te := 0) (vo := (-1)) F5 (Sl.nil _ _ V.None' _ _ (Nat.zero_le _)) (by omega) (by omega) (by omega) (by omega) (by first | assumption | omega | simp)) rfl rfl rfl ?_
 rintro _ w18 ⟨k11, M12, D13, rfl, ⟨h14l, h14u⟩, F15, h16, h17, G19⟩
 have z20 := V.Fr.size G19
 refine V.ru 5 ?_
 refine V.nt ?_
 refine V.seq ?_
 refine V.seq ?_
 have hr21 : (⟨(0 : Int), (0 : Int), (0 : Int), (-1), 0, -1, (⟨0, 0, []⟩ : LogV), (⟨0, 0, []⟩ : LogV).base, ([]), false, false, false, 0, 0, 0, 0, 0, 0, [], 0⟩ : NodeV) = nA0 := rfl
 rw [hr21] at F15
 clear hr21
 refine V.region ?_
 refine V.ru 10 ?_
 refine V.nt ?_
 refine V.condN rfl rfl ?_
 refine V.skip ?_
 refine V.tN ?_
 refine V.seq ?_
 have ha00 : nA0.out.length + 3 ≤ 1000000 := by decide +kernel
 refine V.region ?_
 refine V.ru 1 ?_
 refine V.call (elect_spec F15 (by first | assumption | omega)) rfl rfl rfl ?_
 rintro _ w27 ⟨M22, D23, rfl, F24, h25, h26, G28⟩
 have z29 := V.FrE.size G28
 refine V.ru 1 ?_
 refine V.nt ?_
 refine V.seq ?_
 have hr30 : electV nA0 = nA1 := rfl
 rw [hr30] at F24
 clear hr30
 have hlmA := F24.lm
 have hldA := F24.ld
 refine V.region ?_
 refine V.ru 1 ?_
 refine V.call (rout_spec F24) rfl rfl rfl ?_
 rintro _ w39 ⟨a31, c32, M33, R34, rfl, F35, F36, h37, h38, G40⟩
 have z41 := V.FrE.size G40
 refine V.ru 1 ?_
 refine V.nt ?_
 refine V.seq ?_
 have hr42 : outV nA1 = nA2 := rfl
 rw [hr42] at F36
 clear hr42
 have ha20 : nA2.out.length + 3 ≤ 1000000 := by decide +kernel
 have ha21 : nA2.nc + (⟨2, 2, 0, 0, 1, 0, 0, 0, true, [], []⟩ : RMsg).es.length + 2 ≤ 1000000 := by decide +kernel
 have ha22 : nA2.L.l.length + (⟨2, 2, 0, 0, 1, 0, 0, 0, true, [], []⟩ : RMsg).es.length + 1 ≤ 1000000 := by decide +kernel
 have ha23 : nA2.L.base + nA2.L.l.length + (⟨2, 2, 0, 0, 1, 0, 0, 0, true, [], []⟩ : RMsg).es.length ≤ 2199023255552 := by decide +kernel
 have ha24 : ∀ x ∈ (⟨2, 2, 0, 0, 1, 0, 0, 0, true, [], []⟩ : RMsg).es, x.2.length ≤ 1000000 := by decide +kernel
 have ha25 : (⟨2, 2, 0, 0, 1, 0, 0, 0, true, [], []⟩ : RMsg).da.length ≤ 1000000 := by decide +kernel
 have hl1 : nA1.out.length = 2 := by decide +kernel
 have hRl : ∀ j, R34 j → j < w39.heap.size := by intro j h; grind
 refine V.region ?_
 refine V.ru 1 ?_
 refine V.mkStruct T_ok zero57 rfl rfl rfl rfl rfl ?_
 refine V.call (step_spec (mg := (⟨2, 2, 0, 0, 1, 0, 0, 0, true, [], []⟩ : RMsg)) F36 (Sl.nil _ _ V.None' _ _ (Nat.zero_le _)) (fun _ h => h.elim) (Sl.nil _ _ V.None' _ _ (Nat.zero_le _)) (fun _ h => h.elim) (by intro j h; first | exact h.elim | (have a1 := hM j; (try dsimp only [V.In] at h); grind)) (by intro j h; first | exact h.elim | (have a1 := hM j; (try dsimp only [V.In] at h); grind)) (by first | assumption | omega) (by first | assumption | omega) (by first | assumption | omega) (by first | assumption | omega) (by first | assumption | omega) (by first | assumption | omega)) rfl rfl rfl ?_
 rintro _ w48 ⟨M43, D44, rfl, F45, h46, h47, G49⟩
 have z50 := V.FrE.size G49
 refine V.ru 1 ?_
 refine V.nt ?_
 refine V.seq ?_
 have hr51 : stepV nA2 (⟨2, 2, 0, 0, 1, 0, 0, 0, true, [], []⟩ : RMsg) = nA3 := rfl
 rw [hr51] at F45
 clear hr51
 have ha30 : nA3.out.length + 3 ≤ 1000000 := by decide +kernel
 have ha31 : nA3.nc + 1 ≤ 1000000 := by decide +kernel
 have ha32 : nA3.L.l.length + 1 ≤ 1000000 := by decide +kernel
 refine V.region ?_
 refine V.ru 1 ?_
 refine V.mkMark (xs := ([120] : List UInt8)) T_ok zero5 rfl rfl sz5 rfl rfl rfl rfl rfl rfl Try.underlying5 rfl rfl rfl rfl rfl rfl ?_
 rintro k52 w55 s57 s58 G56 F54
 have z59 := V.Fr.size G56
 replace F45 := F45.gr G56
 refine V.call (prop_spec F45 F54 (fun k hk => by have := hk.2; omega) (by first | assumption | omega) (by first | assumption | omega) (by first | assumption | omega) (by first | assumption | omega | simp)) rfl rfl rfl ?_
 rintro _ w65 ⟨M60, D61, rfl, F62, h63, h64, G66⟩
 have z67 := V.FrE.size G66
 refine V.ru 7 ?_
 refine V.nt ?_
 refine V.seq ?_
 have hr68 : propV nA3 ([120] : List UInt8) = nA4 := rfl
 rw [hr68] at F62
 clear hr68
 have ha40 : nA4.out.length + 3 ≤ 1000000 := by decide +kernel
 have ha41 : nA4.nc + (⟨4, 1, 0, 0, 1, 2, 0, 0, true, [], []⟩ : RMsg).es.length + 2 ≤ 1000000 := by decide +kernel
 have ha42 : nA4.L.l.length + (⟨4, 1, 0, 0, 1, 2, 0, 0, true, [], []⟩ : RMsg).es.length + 1 ≤ 1000000 := by decide +kernel
 have ha43 : nA4.L.base + nA4.L.l.length + (⟨4, 1, 0, 0, 1, 2, 0, 0, true, [], []⟩ : RMsg).es.length ≤ 2199023255552 := by decide +kernel
 have ha44 : ∀ x ∈ (⟨4, 1, 0, 0, 1, 2, 0, 0, true, [], []⟩ : RMsg).es, x.2.length ≤ 1000000 := by decide +kernel
 have ha45 : (⟨4, 1, 0, 0, 1, 2, 0, 0, true, [], []⟩ : RMsg).da.length ≤ 1000000 := by decide +kernel
 refine V.region ?_
 refine V.ru 1 ?_
 refine V.mkStruct T_ok zero57 rfl rfl rfl rfl rfl ?_
 refine V.call (step_spec (mg := (⟨4, 1, 0, 0, 1, 2, 0, 0, true, [], []⟩ : RMsg)) F62 (Sl.nil _ _ V.None' _ _ (Nat.zero_le _)) (fun _ h => h.elim) (Sl.nil _ _ V.None' _ _ (Nat.zero_le _)) (fun _ h => h.elim) (by intro j h; first | exact h.elim | (have a1 := hM j; (try dsimp only [V.In] at h); grind)) (by intro j h; first | exact h.elim | (have a1 := hM j; (try dsimp only [V.In] at h); grind)) (by first | assumption | omega) (by first | assumption | omega) (by first | assumption | omega) (by first | assumption | omega) (by first | assumption | omega) (by first | assumption | omega)) rfl rfl rfl ?_
 rintro _ w74 ⟨M69, D70, rfl, F71, h72, h73, G75⟩
 have z76 := V.FrE.size G75
 refine V.ru 1 ?_
 refine V.nt ?_
 refine V.seq ?_
 have hr77 : stepV nA4 (⟨4, 1, 0, 0, 1, 2, 0, 0, true, [], []⟩ : RMsg) = nA5 := rfl
 rw [hr77] at F71
 clear hr77
 refine V.region ?_
 refine V.ru 1 ?_
 refine V.call (rrole_spec F71) rfl rfl rfl ?_
 rintro _ w78 ⟨rfl, G79⟩
 have z80 := V.Fr.size G79
 refine V.ru 5 ?_
 refine V.nt ?_
 refine V.sr ?_
 refine V.ru 3 ?_
 refine V.splitT (j := 2) (t := 58) rfl rfl (by (first | rfl | decide +kernel | (refine decide_eq_true ?_; subst_vars; exact nA1_kd _) | (refine decide_eq_true ?_; subst_vars; exact nA1_to _))) ?_
 refine V.ru 4 ?_
 refine V.splitT (j := 6) (t := 62) rfl rfl (by (first | rfl | decide +kernel | (refine decide_eq_true ?_; subst_vars; exact nA1_kd _) | (refine decide_eq_true ?_; subst_vars; exact nA1_to _))) ?_
 refine V.ru 4 ?_
 refine V.splitT (j := 10) (t := 66) rfl rfl (by (first | rfl | decide +kernel | (refine decide_eq_true ?_; subst_vars; exact nA1_kd _) | (refine decide_eq_true ?_; subst_vars; exact nA1_to _))) ?_
 refine V.ru 4 ?_
 refine V.splitT (j := 14) (t := 70) rfl rfl (by (first | rfl | decide +kernel | (refine decide_eq_true ?_; subst_vars; exact nA1_kd _) | (refine decide_eq_true ?_; subst_vars; exact nA1_to _))) ?_
 refine V.ru 5 ?_
 refine V.splitT (j := 19) (t := 75) rfl rfl (by (first | rfl | decide +kernel | (refine decide_eq_true ?_; subst_vars; exact nA1_kd _) | (refine decide_eq_true ?_; subst_vars; exact nA1_to _))) ?_
 refine V.ru 1 ?_
 refine V.yes rfl rfl rfl ?_
 replace F35 := F35.mvE G49 (by intro j h hd; (try dsimp only [V.In] at h hd ⊢); first | omega | grind)
 replace F35 := F35.gr G56
 replace F35 := F35.mvE G66 (by intro j h hd; (try dsimp only [V.In] at h hd ⊢); first | omega | grind)
 replace F35 := F35.mvE G75 (by intro j h hd; (try dsimp only [V.In] at h hd ⊢); first | omega | grind)
 replace F35 := F35.gr G79
 refine V.elem T_ok F35 rfl rfl sz57 rfl rfl rfl rfl V.lenA V.lenA ?_
 rintro b81 o82 cs83 hx84 hb85 hR94 hA86
 obtain ⟨x87, hx87⟩ : ∃ z', nA1.out[(1 : Int).toNat] = z' := ⟨_, rfl⟩
 rw [hx87] at hR94
 obtain ⟨a88, c89, a91, c92, rfl, F90, F93⟩ := hR94
 try simp only [Int.toNat_natCast] at hx87 hx84
 refine V.ru 1 ?_
 refine V.yes rfl rfl rfl ?_
 refine V.loadA T_ok (o0 := o82) (off := 0) hA86 rfl rfl rfl rfl rfl ?_
 refine V.ru 3 ?_
 refine V.splitT (j := 26) (t := 82) rfl rfl (by (first | rfl | decide +kernel | (refine decide_eq_true ?_; subst_vars; exact nA1_kd _) | (refine decide_eq_true ?_; subst_vars; exact nA1_to _))) ?_
 refine V.ru 1 ?_
 refine V.yes rfl rfl rfl ?_
 refine V.elem T_ok F35 rfl rfl sz57 rfl rfl rfl rfl V.lenA V.lenA ?_
 rintro b95 o96 cs97 hx98 hb99 hR108 hA100
 obtain ⟨x101, hx101⟩ : ∃ z', nA1.out[(1 : Int).toNat] = z' := ⟨_, rfl⟩
 rw [hx101] at hR108
 obtain ⟨a102, c103, a105, c106, rfl, F104, F107⟩ := hR108
 try simp only [Int.toNat_natCast] at hx101 hx98
 obtain rfl : x87 = x101 := hx87.symm.trans hx101
 refine V.ru 1 ?_
 refine V.yes rfl rfl rfl ?_
 refine V.loadA T_ok (o0 := o96) (off := 2) hA100 rfl rfl rfl rfl rfl ?_
 refine V.ru 3 ?_
 refine V.splitT (j := 33) (t := 89) rfl rfl (by (first | rfl | decide +kernel | (refine decide_eq_true ?_; subst_vars; exact nA1_kd _) | (refine decide_eq_true ?_; subst_vars; exact nA1_to _))) ?_
 refine V.ru 4 ?_
 refine V.splitT (j := 37) (t := 93) rfl rfl (by (first | rfl | decide +kernel | (refine decide_eq_true ?_; subst_vars; exact nA1_kd _) | (refine decide_eq_true ?_; subst_vars; exact nA1_to _))) ?_
 refine V.ru 4 ?_
 refine V.splitT (j := 41) (t := 97) rfl rfl (by (first | rfl | decide +kernel | (refine decide_eq_true ?_; subst_vars; exact nA1_kd _) | (refine decide_eq_true ?_; subst_vars; exact nA1_to _))) ?_
 refine V.ru 4 ?_
 refine V.splitT (j := 45) (t := 101) rfl rfl (by (first | rfl | decide +kernel | (refine decide_eq_true ?_; subst_vars; exact nA1_kd _) | (refine decide_eq_true ?_; subst_vars; exact nA1_to _))) ?_
 refine V.ru 4 ?_
 refine V.splitT (j := 49) (t := 105) rfl rfl (by (first | rfl | decide +kernel | (refine decide_eq_true ?_; subst_vars; exact nA1_kd _) | (refine decide_eq_true ?_; subst_vars; exact nA1_to _))) ?_
 refine V.ru 1 ?_
 refine V.yes rfl rfl rfl ?_
 replace F71 := F71.gr G79
 refine V.call (rcommit_spec F71) rfl rfl rfl ?_
 rintro _ w109 ⟨rfl, G110⟩
 have z111 := V.Fr.size G110
 refine V.ru 3 ?_
 refine V.nt ?_
 refine V.ret ?_
 refine V.done rfl ?_
 replace HG := HG.grow (G9.trans G19)
 replace HG := HG.stepE G28 (by intro i h; (try dsimp only [V.In] at h ⊢); first | omega | grind)
 replace HG := HG.stepE G40 (by intro i h; (try dsimp only [V.In] at h ⊢); first | omega | grind)
 replace HG := HG.stepE G49 (by intro i h; (try dsimp only [V.In] at h ⊢); first | omega | grind)
 replace HG := HG.grow G56
 replace HG := HG.stepE G66 (by intro i h; (try dsimp only [V.In] at h ⊢); first | omega | grind)
 replace HG := HG.stepE G75 (by intro i h; (try dsimp only [V.In] at h ⊢); first | omega | grind)
 replace HG := HG.grow (G79.trans G110)
 exact ⟨congrArg Value.bool (by first | rfl | decide +kernel), HG⟩

end Go.Proofs.Ytphohfpbdkgnaaa
