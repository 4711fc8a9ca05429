/- Proved here: walks: what functions of this seat's program return and what they leave of memory, each as a contract. Conditions: stated at each theorem. -/
import Derived.Test.YthlgimhbdemfjaaMseal
namespace Go.Proofs.Ythlgimhbdemfjaa
set_option linter.unusedVariables false
set_option linter.unusedSimpArgs false
open Go
open V (Bytes Meets Env Sl Own Gr Fr Cells S)

def alB : List UInt8 := [49, 50, 51, 52, 53, 54, 55, 56, 57]
def alF : List UInt8 := [0, 0, 0, 9, 203, 244, 57, 38, 49, 50, 51, 52, 53, 54, 55, 56, 57]
theorem alF_eq : frmB ([49, 50, 51, 52, 53, 54, 55, 56, 57] : List UInt8) = (alF, 0) := by decide +kernel
theorem alS_eq : firstB (alF ++ [1]) = some alB := by decide +kernel
theorem alS_one : firstB [1] = none := by decide +kernel
theorem alScan : scanB (alF ++ [1]) = ([alB], 17) := by
  rw [scanB_some alS_eq]
  have h : (alF ++ [1]).drop (8 + alB.length) = [1] := by decide +kernel
  rw [h, scanB_none alS_one]; rfl

set_option maxHeartbeats 300000 in
set_option maxRecDepth 10000 in
theorem alive_spec {w : World}    :
    Meets Try.prog 9 [] w fun r w' => r = .bool true ∧ Gr w w' := by
 have HG := V.Fr.refl [] w
 refine V.enter (n := 49) Try.func9 rfl rfl (by decide) rfl ?_
 refine V.seq ?_
 refine V.region ?_
 refine V.run T_ok 1 rfl ?_
 refine V.nil ?_
 refine V.tN ?_
 refine V.seq ?_
 refine V.region ?_
 refine V.mkMark (xs := ([49, 50, 51, 52, 53, 54, 55, 56, 57] : List UInt8)) T_ok zero5 rfl rfl sz5 rfl rfl rfl rfl rfl rfl Try.underlying5 rfl rfl rfl rfl rfl rfl ?_
 rintro k1 w4 s6 s7 G5 F3
 have z8 := V.Fr.size G5
 replace HG := HG.grow G5
 clear G5
 refine V.call (frame_spec F3 (fun k hk => by have := hk.2; omega)) rfl rfl rfl ?_
 rintro _ w12 ⟨a9, c10, rfl, F11, G13⟩
 have z14 := V.Fr.size G13
 try replace F3 := F3.gr G13
 replace HG := HG.grow G13
 clear G13
 refine V.run T_ok 5 rfl ?_
 refine V.nil ?_
 refine V.tN ?_
 refine V.seq ?_
 have hal17 : alF.length = 17 := rfl
 have hal := alF_eq
 rw [hal] at F11 ⊢
 clear hal
 refine V.region ?_
 refine V.mkSlice T_ok zero5 rfl rfl sz5 rfl rfl rfl rfl rfl rfl ?_
 rintro k15 w18 s20 s21 G19 Fk16
 have z22 := V.Fr.size G19
 try replace F3 := F3.gr G19
 try replace F11 := F11.gr G19
 replace HG := HG.grow G19
 clear G19
 have F17 := V.rowOfB (xs := ([] : List UInt8)) Fk16 rfl rfl
 clear Fk16
 refine V.run T_ok 1 rfl ?_
 refine V.appendR (F17) (V.From.flat V.flat_byte (D' := V.None') (F11.sl.from Try.underlying23)) elT23_23 rfl rfl rfl rfl rfl (by first | omega | (simp only [List.length_take, List.length_drop, List.length_append, List.length_cons, List.length_nil, List.length_replicate, List.length_set, V.length_data, V.S_size]; omega)) (by unfold maxLen; first | omega | (simp only [List.length_take, List.length_drop, List.length_append, List.length_cons, List.length_nil, List.length_replicate, List.length_set, V.length_data, V.S_size]; omega)) (by omega) (by omega) (fun _ h => h.elim) (fun _ h => h.elim) ?_
 rintro a23 c24 w26 G27 s28 F25
 clear F17
 have z29 := Go.RowKit.Below.size G27
 first | replace F3 := V.Sl.bl F3 G27 (by first | exact (fun _ h => by have := h.2; omega) | (intro k h; have := hD k h; omega)) | clear F3 | skip
 first | replace F11 := V.Row.bl F11 G27 (by first | exact ⟨fun _ h => h.elim, by omega⟩ | exact ⟨fun _ h => by have := h.2; omega, by omega⟩) | clear F11 | skip
 replace HG := HG.bl (Go.RowKit.Below.mono G27 (by omega))
 clear G27
 rw [List.nil_append] at F25 ⊢
 refine V.mkSlice T_ok zero5 rfl rfl sz5 rfl rfl rfl rfl rfl rfl ?_
 rintro k30 w33 s35 s36 G34 Fk31
 have z37 := V.Fr.size G34
 try replace F3 := F3.gr G34
 try replace F11 := F11.gr G34
 try replace F25 := F25.gr G34
 replace HG := HG.grow G34
 clear G34
 have F32 := V.rowOfB (xs := ([1] : List UInt8)) Fk31 rfl rfl
 clear Fk31
 refine V.appendR (F25) (V.From.flat V.flat_byte (D' := V.None') (F32.sl.from Try.underlying23)) elT23_23 rfl rfl rfl rfl rfl (by first | omega | (simp only [List.length_take, List.length_drop, List.length_append, List.length_cons, List.length_nil, List.length_replicate, List.length_set, V.length_data, V.S_size]; omega)) (by unfold maxLen; first | omega | (simp only [List.length_take, List.length_drop, List.length_append, List.length_cons, List.length_nil, List.length_replicate, List.length_set, V.length_data, V.S_size]; omega)) (by omega) (by omega) (fun _ h => h.elim) (fun _ h => h.elim) ?_
 rintro a38 c39 w41 G42 s43 F40
 clear F25
 clear F32
 have z44 := Go.RowKit.Below.size G42
 first | replace F3 := V.Sl.bl F3 G42 (by first | exact (fun _ h => by have := h.2; omega) | (intro k h; have := hD k h; omega)) | clear F3 | skip
 first | replace F11 := V.Row.bl F11 G42 (by first | exact ⟨fun _ h => h.elim, by omega⟩ | exact ⟨fun _ h => by have := h.2; omega, by omega⟩) | clear F11 | skip
 replace HG := HG.bl (Go.RowKit.Below.mono G42 (by omega))
 clear G42
 have hr45 : alF ++ ([1] : List UInt8) = alF ++ [1] := rfl
 rw [hr45] at F40 ⊢
 clear hr45
 refine V.call (scan_spec F40.sl (fun k hk => by have := hk.2; omega) (by first | omega | (simp only [List.length_take, List.length_drop, List.length_append, List.length_cons, List.length_nil, List.length_replicate, List.length_set, V.length_data, V.S_size]; omega))) rfl rfl rfl ?_
 rintro _ w49 ⟨a46, c47, rfl, F48, G50⟩
 have z51 := V.Fr.size G50
 try replace F3 := F3.gr G50
 try replace F11 := F11.gr G50
 try replace F40 := F40.gr G50
 replace HG := HG.grow G50
 clear G50
 refine V.run T_ok 5 rfl ?_
 refine V.nil ?_
 refine V.tN ?_
 refine V.seq ?_
 rw [alScan] at F48 ⊢
 refine V.region ?_
 refine V.run T_ok 8 rfl ?_
 refine V.splitT (j := 7) (t := 27) rfl rfl (by (first | rfl | decide +kernel)) ?_
 refine V.run T_ok 1 rfl ?_
 refine V.yes rfl rfl rfl ?_
 refine V.cutL T_ok F11.sl rfl rfl sz5 rfl rfl rfl rfl (by first | omega | (simp only [List.length_take, List.length_drop, List.length_append, List.length_cons, List.length_nil, List.length_replicate, List.length_set, V.length_data, V.S_size]; omega)) (by first | omega | (simp only [List.length_take, List.length_drop, List.length_append, List.length_cons, List.length_nil, List.length_replicate, List.length_set, V.length_data, V.S_size]; omega)) (fun a52 F54 => ?_)
 refine V.yes rfl rfl rfl ?_
 refine V.toStr F54 Try.underlying23 Try.underlying5 Try.underlying9 rfl rfl rfl rfl ?_
 refine V.run T_ok 3 rfl ?_
 refine V.splitT (j := 13) (t := 33) rfl rfl (by (first | rfl | decide +kernel)) ?_
 refine V.run T_ok 5 rfl ?_
 refine V.splitT (j := 18) (t := 38) rfl rfl (by (first | rfl | decide +kernel)) ?_
 refine V.run T_ok 5 rfl ?_
 refine V.yes rfl rfl rfl ?_
 refine V.elem T_ok F48.sl rfl rfl sz23 rfl rfl rfl rfl (by first | omega | (simp only [List.length_take, List.length_drop, List.length_append, List.length_cons, List.length_nil, List.length_replicate, List.length_set, V.length_data, V.S_size]; omega)) (by first | omega | (simp only [List.length_take, List.length_drop, List.length_append, List.length_cons, List.length_nil, List.length_replicate, List.length_set, V.length_data, V.S_size]; omega)) ?_
 rintro b55 o56 cs57 hx58 hb59 hR65 hA60
 obtain ⟨x61, hx61⟩ : ∃ z', ([alB] : List (List UInt8))[(0 : Int).toNat] = z' := ⟨_, rfl⟩
 rw [hx61] at hR65
 obtain ⟨a62, c63, rfl, F64⟩ := hR65
 try simp only [Int.toNat_natCast] at hx61 hx58
 refine V.yes rfl rfl rfl ?_
 refine V.loadA T_ok (o0 := o56) (off := 0) hA60 rfl rfl rfl rfl rfl ?_
 refine V.yes rfl rfl rfl ?_
 refine V.toStr F64.sl Try.underlying23 Try.underlying5 Try.underlying9 rfl rfl rfl rfl ?_
 refine V.run T_ok 3 rfl ?_
 refine V.nil ?_
 refine V.tN ?_
 refine V.ret ?_
 refine V.done rfl ?_
 exact ⟨congrArg Value.bool (by rw [← hx61]; show decide (S alB = _) = _; decide +kernel), HG⟩

set_option maxHeartbeats 300000 in
set_option maxRecDepth 10000 in
theorem sealTells_walk {w : World}  {D_b : Nat → Prop} {c_b : Nat} {a_b : Option Addr} {b : List UInt8} (F_b : Sl V.Cod.byte w D_b a_b c_b b) (hD_b : ∀ k, D_b k → k < w.heap.size)  :
    Meets Try.prog 4 [.slice a_b b.length c_b] w fun r w' => r = .bool true ∧ Gr w w' := by
 have HG := V.Fr.refl [] w
 refine V.enter (n := 91) Try.func4 rfl rfl (by decide) rfl ?_
 refine V.seq ?_
 refine V.region ?_
 refine V.run T_ok 1 rfl ?_
 refine V.nil ?_
 refine V.tN ?_
 refine V.seq ?_
 refine V.seq ?_
 refine V.region ?_
 refine V.run T_ok 3 rfl ?_
 refine V.nil ?_
 refine V.tN ?_
 refine V.condT rfl (fun h1 => ?_) (fun h1 => ?_)
 ·
  try replace h1 := V.dec h1
  try simp only [V.mk0, V.mk1, V.mk2, V.mk3] at h1
  refine V.seq ?_
  refine V.region ?_
  refine V.call (alive_spec) rfl rfl rfl ?_
  rintro _ w1 ⟨rfl, G2⟩
  have z3 := V.Fr.size G2
  try replace F_b := F_b.gr G2
  replace HG := HG.grow G2
  clear G2
  refine V.run T_ok 1 rfl ?_
  refine V.nil ?_
  refine V.tN ?_
  refine V.ret ?_
  refine V.tR ?_
  refine V.done rfl ?_
  exact ⟨by first | rfl | exact congrArg Value.bool (decide_eq_true rfl), HG⟩
 ·
  try replace h1 := V.dec h1
  try simp only [V.mk0, V.mk1, V.mk2, V.mk3] at h1
  refine V.skip ?_
  refine V.tN ?_
  refine V.seq ?_
  refine V.region ?_
  refine V.run T_ok 1 rfl ?_
  refine V.call (frame_spec F_b (fun k hk => by have := hD_b k hk; omega)) rfl rfl rfl ?_
  rintro _ w7 ⟨a4, c5, rfl, F6, G8⟩
  have z9 := V.Fr.size G8
  try replace F_b := F_b.gr G8
  replace HG := HG.grow G8
  clear G8
  refine V.run T_ok 5 rfl ?_
  refine V.nil ?_
  refine V.tN ?_
  refine V.seq ?_
  refine V.region ?_
  refine V.run T_ok 1 rfl ?_
  refine V.call (rframe_spec F_b (fun k hk => by have := hD_b k hk; omega)) rfl rfl rfl ?_
  rintro _ w13 ⟨a10, c11, rfl, F12, G14⟩
  have z15 := V.Fr.size G14
  try replace F_b := F_b.gr G14
  try replace F6 := F6.gr G14
  replace HG := HG.grow G14
  clear G14
  refine V.run T_ok 5 rfl ?_
  refine V.nil ?_
  refine V.tN ?_
  refine V.seq ?_
  refine V.region ?_
  refine V.run T_ok 1 rfl ?_
  refine V.call (scan_spec F_b (fun k hk => by have := hD_b k hk; omega) (by first | omega | (simp only [List.length_take, List.length_drop, List.length_append, List.length_cons, List.length_nil, List.length_replicate, List.length_set, V.length_data, V.S_size]; omega))) rfl rfl rfl ?_
  rintro _ w19 ⟨a16, c17, rfl, F18, G20⟩
  have z21 := V.Fr.size G20
  try replace F_b := F_b.gr G20
  try replace F6 := F6.gr G20
  try replace F12 := F12.gr G20
  replace HG := HG.grow G20
  clear G20
  refine V.run T_ok 5 rfl ?_
  refine V.nil ?_
  refine V.tN ?_
  refine V.seq ?_
  refine V.region ?_
  refine V.run T_ok 1 rfl ?_
  refine V.call (rscan_spec F_b (fun k hk => by have := hD_b k hk; omega) (by first | omega | (simp only [List.length_take, List.length_drop, List.length_append, List.length_cons, List.length_nil, List.length_replicate, List.length_set, V.length_data, V.S_size]; omega))) rfl rfl rfl ?_
  rintro _ w25 ⟨a22, c23, rfl, F24, G26⟩
  have z27 := V.Fr.size G26
  try replace F_b := F_b.gr G26
  try replace F6 := F6.gr G26
  try replace F12 := F12.gr G26
  try replace F18 := F18.gr G26
  replace HG := HG.grow G26
  clear G26
  refine V.run T_ok 5 rfl ?_
  refine V.nil ?_
  refine V.tN ?_
  refine V.seq ?_
  refine V.region ?_
  refine V.run T_ok 1 rfl ?_
  refine V.call (whole_spec F_b (fun k hk => by have := hD_b k hk; omega)) rfl rfl rfl ?_
  rintro _ w31 ⟨a28, c29, rfl, F30, G32⟩
  have z33 := V.Fr.size G32
  try replace F_b := F_b.gr G32
  try replace F6 := F6.gr G32
  try replace F12 := F12.gr G32
  try replace F18 := F18.gr G32
  try replace F24 := F24.gr G32
  replace HG := HG.grow G32
  clear G32
  refine V.run T_ok 5 rfl ?_
  refine V.nil ?_
  refine V.tN ?_
  refine V.seq ?_
  refine V.region ?_
  refine V.run T_ok 1 rfl ?_
  refine V.call (rwhole_spec F_b (fun k hk => by have := hD_b k hk; omega)) rfl rfl rfl ?_
  rintro _ w37 ⟨a34, c35, rfl, F36, G38⟩
  have z39 := V.Fr.size G38
  try replace F_b := F_b.gr G38
  try replace F6 := F6.gr G38
  try replace F12 := F12.gr G38
  try replace F18 := F18.gr G38
  try replace F24 := F24.gr G38
  try replace F30 := F30.gr G38
  replace HG := HG.grow G38
  clear G38
  refine V.run T_ok 5 rfl ?_
  refine V.nil ?_
  refine V.tN ?_
  refine V.seq ?_
  refine V.region ?_
  refine V.call (alive_spec) rfl rfl rfl ?_
  rintro _ w40 ⟨rfl, G41⟩
  have z42 := V.Fr.size G41
  try replace F_b := F_b.gr G41
  try replace F6 := F6.gr G41
  try replace F12 := F12.gr G41
  try replace F18 := F18.gr G41
  try replace F24 := F24.gr G41
  try replace F30 := F30.gr G41
  try replace F36 := F36.gr G41
  replace HG := HG.grow G41
  clear G41
  refine V.run T_ok 2 rfl ?_
  refine V.yes rfl rfl rfl ?_
  refine V.call (sum_spec F_b) rfl rfl rfl ?_
  rintro _ w40_ ⟨rfl, rfl⟩
  refine V.run T_ok 1 rfl ?_
  refine V.yes rfl rfl rfl ?_
  refine V.call (rsum_spec F_b) rfl rfl rfl ?_
  rintro _ w40_ ⟨rfl, rfl⟩
  refine V.run T_ok 3 rfl ?_
  refine V.splitT (j := 8) (t := 57) rfl rfl (by (first | rfl | exact decide_eq_true rfl | simp)) ?_
  refine V.run T_ok 1 rfl ?_
  refine V.yes rfl rfl rfl ?_
  refine V.toStr F6.sl Try.underlying23 Try.underlying5 Try.underlying9 rfl rfl rfl rfl ?_
  refine V.run T_ok 1 rfl ?_
  refine V.yes rfl rfl rfl ?_
  refine V.toStr F12.sl Try.underlying23 Try.underlying5 Try.underlying9 rfl rfl rfl rfl ?_
  refine V.run T_ok 3 rfl ?_
  refine V.splitT (j := 15) (t := 64) rfl rfl (by (first | rfl | exact decide_eq_true rfl | simp)) ?_
  refine V.run T_ok 5 rfl ?_
  refine V.splitT (j := 20) (t := 69) rfl rfl (by (first | rfl | exact decide_eq_true rfl | simp)) ?_
  refine V.run T_ok 2 rfl ?_
  refine V.yes rfl rfl rfl ?_
  refine V.call (rsame_spec (V.Sl.ofOwn F18.sl) F24.slB) rfl rfl rfl ?_
  rintro _ w40_ ⟨rfl, G46⟩
  have z47 := V.Fr.size G46
  try replace F_b := F_b.gr G46
  try replace F6 := F6.gr G46
  try replace F12 := F12.gr G46
  try replace F18 := F18.gr G46
  try replace F24 := F24.gr G46
  try replace F30 := F30.gr G46
  try replace F36 := F36.gr G46
  replace HG := HG.grow G46
  clear G46
  refine V.run T_ok 2 rfl ?_
  refine V.splitT (j := 25) (t := 74) rfl rfl (by (first | rfl | exact decide_eq_true rfl | simp)) ?_
  refine V.run T_ok 5 rfl ?_
  refine V.splitT (j := 30) (t := 79) rfl rfl (by (first | rfl | exact decide_eq_true rfl | simp)) ?_
  refine V.run T_ok 1 rfl ?_
  refine V.yes rfl rfl rfl ?_
  refine V.toStr F30.sl Try.underlying23 Try.underlying5 Try.underlying9 rfl rfl rfl rfl ?_
  refine V.run T_ok 1 rfl ?_
  refine V.yes rfl rfl rfl ?_
  refine V.toStr F36 Try.underlying23 Try.underlying5 Try.underlying9 rfl rfl rfl rfl ?_
  refine V.run T_ok 3 rfl ?_
  refine V.splitT (j := 37) (t := 86) rfl rfl (by (first | rfl | exact decide_eq_true rfl | simp)) ?_
  refine V.run T_ok 5 rfl ?_
  refine V.nil ?_
  refine V.tN ?_
  refine V.ret ?_
  refine V.done rfl ?_
  exact ⟨by first | rfl | exact congrArg Value.bool (decide_eq_true rfl), HG⟩

end Go.Proofs.Ythlgimhbdemfjaa
