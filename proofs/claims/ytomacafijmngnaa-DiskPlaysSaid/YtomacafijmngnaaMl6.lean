/- Proved here: walks: what functions of this seat's program return and what they leave of memory, each as a contract. Conditions: stated at each theorem. -/
import Derived.Test.YtomacafijmngnaaMd
namespace Go.Proofs.Ytomacafijmngnaa
set_option linter.unusedVariables false
set_option linter.unusedSimpArgs false
open Go
open V (Bytes Meets Env Sl Own Gr Fr Cells S)

theorem comm_self : ∀ (a : List UInt8), comm a a = a.length
  | [] => rfl
  | x :: xs => by simp [comm, comm_self xs]
theorem dAppend_ok {d : DiskV} {b : List UInt8} (h : d.nf.length + b.length ≤ 16777216) : dAppend d b = { d with nf := d.nf ++ b } := by unfold dAppend; rw [if_neg (by omega)]
theorem dSet_ok {d : DiskV} {b : List UInt8} (h : b.length ≤ 16777216) : dSet d b = { d with nc := b } := by unfold dSet; rw [if_neg (by omega)]
theorem dCrash_safe {b c : List UInt8} {keep : Int} {torn cell : Bool} : dCrash ⟨b, c, b, c⟩ keep torn cell = ⟨b, c, b, c⟩ := by
  have h : dLeft ⟨b, c, b, c⟩ keep torn = b := by
    by_cases hk : keep < 1
    · exact dLeft_sf ⟨hk, .inl (comm_self b).symm⟩
    · exact dLeft_nf (by simp only [comm_self]; omega) (comm_self b).symm
  unfold dCrash; rw [h]; cases cell <;> rfl

set_option maxHeartbeats 4000000 in
set_option maxRecDepth 10000 in
theorem alive_spec {w : World}    :
    Meets Try.prog 9 [] w fun r w' => r = .bool true ∧ Gr w w' := by
  have HG := V.Fr.refl [] w
  refine V.enter (n := 44) Try.func9 rfl rfl (by decide) rfl ?_
  refine V.seq ?_
  refine V.region ?_
  refine V.run T_ok 1 rfl ?_
  refine V.nil ?_
  refine V.tN ?_
  refine V.seq ?_
  refine V.region ?_
  refine V.call (dnew_spec) rfl rfl rfl ?_
  rintro _ w4 ⟨k1, rfl, F2, ⟨h3l, h3u⟩, G5⟩
  have z6 := V.Fr.size G5
  replace HG := HG.grow G5
  clear G5
  have F7 := Dsk.nil (D := (fun j => j ≠ k1)) F2 (by first | (intro h; exact h rfl) | (intro h; omega)) (by intro j hj; first | omega | exact ⟨by omega, by omega⟩)
  clear F2
  refine V.run T_ok 1 rfl ?_
  refine V.nil ?_
  refine V.tN ?_
  refine V.seq ?_
  refine V.region ?_
  refine V.run T_ok 1 rfl ?_
  refine V.mkMark (xs := ([115, 97, 102, 101] : List UInt8)) T_ok zero5 rfl rfl sz5 rfl rfl rfl rfl rfl rfl Try.underlying5 rfl rfl rfl rfl rfl rfl ?_
  rintro k8 w11 s13 s14 G12 F10
  have z15 := V.Fr.size G12
  try replace F7 := F7.gr G12
  replace HG := HG.grow G12
  clear G12
  refine V.call (dappend_spec F7 F10 (by first | omega | (simp only [List.length_take, List.length_drop, List.length_append, List.length_cons, List.length_nil, List.length_replicate, List.length_set, V.length_data, V.S_size]; omega))) rfl rfl rfl ?_
  rintro _ w17 ⟨rfl, F16, G18⟩
  have z19 := V.Fr.size G18
  first | replace F7 := F7.mv1 G18 (by first | exact ⟨by omega, by assumption⟩ | exact ⟨by omega, fun h => absurd h.1 (by assumption)⟩ | exact ⟨by omega, fun h => absurd h.1.1 (by assumption)⟩ | exact ⟨by omega, fun h => by first | (have h2 := h.1; have h3 := h.2; omega) | (have h2 := h; dsimp only at h2; omega)⟩ | first | omega | exact fun h => h | exact ⟨by omega, fun h => h⟩ | (intro h; first | (have := hD _ h; omega)) | (refine ⟨by omega, ?_⟩; intro h; first | (have := hD _ h; omega))) | clear F7 | skip
  first | replace F10 := F10.mv1 G18 (by first | exact (fun h => by have := h.1; have := h.2; omega) | exact (fun h => by omega) | exact (fun h => by have := h.1.1; have := h.1.2; omega) | exact (fun h => h.2 rfl) | exact (fun h => hnk h.1) | first | omega | exact fun h => h | exact ⟨by omega, fun h => h⟩ | (intro h; first | (have := hD _ h; omega)) | (refine ⟨by omega, ?_⟩; intro h; first | (have := hD _ h; omega))) | clear F10 | skip
  replace HG := HG.new1 G18 (by first | (refine Or.inr ?_; omega) | (refine Or.inl ?_; simp; done))
  clear G18
  refine V.nil ?_
  refine V.tN ?_
  refine V.seq ?_
  refine V.region ?_
  refine V.run T_ok 1 rfl ?_
  refine V.call (dsync_spec F16) rfl rfl rfl ?_
  rintro _ w21 ⟨rfl, F20, G22⟩
  have z23 := V.Fr.size G22
  first | replace F10 := F10.mv1 G22 (by first | exact (fun h => by have := h.1; have := h.2; omega) | exact (fun h => by omega) | exact (fun h => by have := h.1.1; have := h.1.2; omega) | exact (fun h => h.2 rfl) | exact (fun h => hnk h.1) | first | omega | exact fun h => h | exact ⟨by omega, fun h => h⟩ | (intro h; first | (have := hD _ h; omega)) | (refine ⟨by omega, ?_⟩; intro h; first | (have := hD _ h; omega))) | clear F10 | skip
  first | replace F16 := F16.mv1 G22 (by first | exact ⟨by omega, by assumption⟩ | exact ⟨by omega, fun h => absurd h.1 (by assumption)⟩ | exact ⟨by omega, fun h => absurd h.1.1 (by assumption)⟩ | exact ⟨by omega, fun h => by first | (have h2 := h.1; have h3 := h.2; omega) | (have h2 := h; dsimp only at h2; omega)⟩ | first | omega | exact fun h => h | exact ⟨by omega, fun h => h⟩ | (intro h; first | (have := hD _ h; omega)) | (refine ⟨by omega, ?_⟩; intro h; first | (have := hD _ h; omega))) | clear F16 | skip
  replace HG := HG.new1 G22 (by first | (refine Or.inr ?_; omega) | (refine Or.inl ?_; simp; done))
  clear G22
  refine V.nil ?_
  refine V.tN ?_
  refine V.seq ?_
  refine V.region ?_
  refine V.run T_ok 1 rfl ?_
  refine V.mkMark (xs := ([110, 101, 119] : List UInt8)) T_ok zero5 rfl rfl sz5 rfl rfl rfl rfl rfl rfl Try.underlying5 rfl rfl rfl rfl rfl rfl ?_
  rintro k24 w27 s29 s30 G28 F26
  have z31 := V.Fr.size G28
  try replace F10 := F10.gr G28
  try replace F20 := F20.gr G28
  replace HG := HG.grow G28
  clear G28
  refine V.call (dappend_spec F20 F26 (by first | omega | (simp only [List.length_take, List.length_drop, List.length_append, List.length_cons, List.length_nil, List.length_replicate, List.length_set, V.length_data, V.S_size]; omega))) rfl rfl rfl ?_
  rintro _ w33 ⟨rfl, F32, G34⟩
  have z35 := V.Fr.size G34
  first | replace F10 := F10.mv1 G34 (by first | exact (fun h => by have := h.1; have := h.2; omega) | exact (fun h => by omega) | exact (fun h => by have := h.1.1; have := h.1.2; omega) | exact (fun h => h.2 rfl) | exact (fun h => hnk h.1) | first | omega | exact fun h => h | exact ⟨by omega, fun h => h⟩ | (intro h; first | (have := hD _ h; omega)) | (refine ⟨by omega, ?_⟩; intro h; first | (have := hD _ h; omega))) | clear F10 | skip
  first | replace F20 := F20.mv1 G34 (by first | exact ⟨by omega, by assumption⟩ | exact ⟨by omega, fun h => absurd h.1 (by assumption)⟩ | exact ⟨by omega, fun h => absurd h.1.1 (by assumption)⟩ | exact ⟨by omega, fun h => by first | (have h2 := h.1; have h3 := h.2; omega) | (have h2 := h; dsimp only at h2; omega)⟩ | first | omega | exact fun h => h | exact ⟨by omega, fun h => h⟩ | (intro h; first | (have := hD _ h; omega)) | (refine ⟨by omega, ?_⟩; intro h; first | (have := hD _ h; omega))) | clear F20 | skip
  first | replace F26 := F26.mv1 G34 (by first | exact (fun h => by have := h.1; have := h.2; omega) | exact (fun h => by omega) | exact (fun h => by have := h.1.1; have := h.1.2; omega) | exact (fun h => h.2 rfl) | exact (fun h => hnk h.1) | first | omega | exact fun h => h | exact ⟨by omega, fun h => h⟩ | (intro h; first | (have := hD _ h; omega)) | (refine ⟨by omega, ?_⟩; intro h; first | (have := hD _ h; omega))) | clear F26 | skip
  replace HG := HG.new1 G34 (by first | (refine Or.inr ?_; omega) | (refine Or.inl ?_; simp; done))
  clear G34
  refine V.run T_ok 1 rfl ?_
  refine V.nil ?_
  refine V.tN ?_
  refine V.seq ?_
  refine V.region ?_
  refine V.run T_ok 1 rfl ?_
  refine V.call (dcrash_spec (keep := 2) (torn := true) (cell := false) F32) rfl rfl rfl ?_
  rintro _ w39 ⟨k36, rfl, ⟨h37l, h37u⟩, F38, G40⟩
  have z41 := V.Fr.size G40
  try replace F10 := F10.gr G40
  try replace F26 := F26.gr G40
  try replace F32 := F32.gr G40
  replace HG := HG.grow G40
  clear G40
  refine V.run T_ok 1 rfl ?_
  refine V.nil ?_
  refine V.tN ?_
  refine V.seq ?_
  refine V.region ?_
  refine V.run T_ok 3 rfl ?_
  refine V.splitT (j := 2) (t := 19) rfl rfl (by decide +kernel) ?_
  refine V.run T_ok 1 rfl ?_
  refine V.yes rfl rfl rfl ?_
  refine V.call (dfile_spec F32) rfl rfl rfl ?_
  rintro _ w45 ⟨a42, c43, rfl, F44, G46⟩
  have z47 := V.Fr.size G46
  try replace F10 := F10.gr G46
  try replace F26 := F26.gr G46
  try replace F32 := F32.gr G46
  try replace F38 := F38.gr G46
  replace HG := HG.grow G46
  clear G46
  refine V.yes rfl rfl rfl ?_
  refine V.toStr F44.sl Try.underlying22 Try.underlying5 Try.underlying9 rfl rfl rfl rfl ?_
  refine V.run T_ok 3 rfl ?_
  refine V.splitT (j := 8) (t := 25) rfl rfl (by decide +kernel) ?_
  refine V.run T_ok 1 rfl ?_
  refine V.yes rfl rfl rfl ?_
  refine V.call (ddirty_spec F32) rfl rfl rfl ?_
  rintro _ w48 ⟨rfl, G49⟩
  have z50 := V.Fr.size G49
  try replace F10 := F10.gr G49
  try replace F26 := F26.gr G49
  try replace F32 := F32.gr G49
  try replace F38 := F38.gr G49
  try replace F44 := F44.gr G49
  replace HG := HG.grow G49
  clear G49
  refine V.run T_ok 2 rfl ?_
  refine V.splitT (j := 12) (t := 29) rfl rfl (by decide +kernel) ?_
  refine V.run T_ok 5 rfl ?_
  refine V.yes rfl rfl rfl ?_
  refine V.call (dfile_spec F38) rfl rfl rfl ?_
  rintro _ w54 ⟨a51, c52, rfl, F53, G55⟩
  have z56 := V.Fr.size G55
  try replace F10 := F10.gr G55
  try replace F26 := F26.gr G55
  try replace F32 := F32.gr G55
  try replace F38 := F38.gr G55
  try replace F44 := F44.gr G55
  replace HG := HG.grow G55
  clear G55
  refine V.yes rfl rfl rfl ?_
  refine V.toStr F53.sl Try.underlying22 Try.underlying5 Try.underlying9 rfl rfl rfl rfl ?_
  refine V.run T_ok 3 rfl ?_
  refine V.splitT (j := 22) (t := 39) rfl rfl (by decide +kernel) ?_
  refine V.run T_ok 1 rfl ?_
  refine V.yes rfl rfl rfl ?_
  refine V.call (ddirty_spec F38) rfl rfl rfl ?_
  rintro _ w57 ⟨rfl, G58⟩
  have z59 := V.Fr.size G58
  try replace F10 := F10.gr G58
  try replace F26 := F26.gr G58
  try replace F32 := F32.gr G58
  try replace F38 := F38.gr G58
  try replace F44 := F44.gr G58
  try replace F53 := F53.gr G58
  replace HG := HG.grow G58
  clear G58
  refine V.run T_ok 3 rfl ?_
  refine V.nil ?_
  refine V.tN ?_
  refine V.ret ?_
  refine V.done rfl ?_
  exact ⟨by first | rfl | decide +kernel, HG⟩

set_option maxHeartbeats 4000000 in
set_option maxRecDepth 10000 in
theorem diskNil_walk {w : World} {D : Nat → Prop} {c : Nat} {a : Option Addr} {b : List UInt8} {kd n : Int} {torn cell : Bool} (FB : Bytes w D a c b)   :
    Meets Try.prog 7 [.agg #[.int .i64 kd, .int .i64 n, .slice a b.length c, .bool torn, .bool cell]] w fun r w' => r = .bool true ∧ Gr w w' := by
  have HG := V.Fr.refl [] w
  refine V.enter (n := 64) Try.func7 rfl rfl (by decide) rfl ?_
  refine V.seq ?_
  refine V.region ?_
  refine V.box rfl rfl rfl rfl ?_
  rintro k1 w3 s5 s6 G4 Fk2
  have z7 := V.Fr.size G4
  try replace FB := FB.gr G4
  replace HG := HG.grow G4
  clear G4
  try simp only [V.cellsL, V.spliceL] at Fk2
  refine V.run T_ok 1 rfl ?_
  refine V.nil ?_
  refine V.tN ?_
  refine V.seq ?_
  refine V.seq ?_
  refine V.region ?_
  refine V.run T_ok 1 rfl ?_
  refine V.loadO T_ok Fk2 rfl rfl rfl rfl rfl ?_
  refine V.run T_ok 2 rfl ?_
  refine V.nil ?_
  refine V.tN ?_
  refine V.condT rfl (fun h1 => ?_) (fun h1 => ?_)
  ·
    try simp only [decide_eq_true_eq, decide_eq_false_iff_not, Bool.or_eq_true, Bool.and_eq_true, Bool.or_eq_false_iff, Bool.and_eq_false_iff, Bool.not_eq_true', Bool.not_eq_false', Int.not_lt, Int.not_le, Decidable.not_not, V.u8eq, V.S_inj, V.S_lit, V.S_lit2] at h1
    refine V.seq ?_
    refine V.region ?_
    refine V.call (alive_spec) rfl rfl rfl ?_
    rintro _ w8 ⟨rfl, G9⟩
    have z10 := V.Fr.size G9
    try replace FB := FB.gr G9
    try replace Fk2 := Fk2.gr G9
    replace HG := HG.grow G9
    clear G9
    refine V.run T_ok 1 rfl ?_
    refine V.nil ?_
    refine V.tN ?_
    refine V.ret ?_
    refine V.tR ?_
    refine V.done rfl ?_
    exact ⟨(by first | rfl | simp only [List.length_set]), HG⟩
  ·
    try simp only [decide_eq_true_eq, decide_eq_false_iff_not, Bool.or_eq_true, Bool.and_eq_true, Bool.or_eq_false_iff, Bool.and_eq_false_iff, Bool.not_eq_true', Bool.not_eq_false', Int.not_lt, Int.not_le, Decidable.not_not, V.u8eq, V.S_inj, V.S_lit, V.S_lit2] at h1
    refine V.skip ?_
    refine V.tN ?_
    refine V.seq ?_
    refine V.region ?_
    refine V.run T_ok 1 rfl ?_
    refine V.nil ?_
    refine V.tN ?_
    refine V.seq ?_
    refine V.region ?_
    refine V.call (alive_spec) rfl rfl rfl ?_
    rintro _ w11 ⟨rfl, G12⟩
    have z13 := V.Fr.size G12
    try replace FB := FB.gr G12
    try replace Fk2 := Fk2.gr G12
    replace HG := HG.grow G12
    clear G12
    refine V.run T_ok 3 rfl ?_
    refine V.yes rfl rfl rfl ?_
    refine V.loadO T_ok Fk2 rfl rfl rfl rfl rfl ?_
    refine V.yes rfl rfl rfl ?_
    refine V.call (dappend_nil FB) rfl rfl rfl ?_
    rintro _ w11_ ⟨rfl, rfl⟩
    refine V.run T_ok 5 rfl ?_
    refine V.yes rfl rfl rfl ?_
    refine V.loadO T_ok Fk2 rfl rfl rfl rfl rfl ?_
    refine V.yes rfl rfl rfl ?_
    refine V.call (dcut_nil (n := n)) rfl rfl rfl ?_
    rintro _ w11_ ⟨rfl, rfl⟩
    refine V.run T_ok 5 rfl ?_
    refine V.yes rfl rfl rfl ?_
    refine V.loadO T_ok Fk2 rfl rfl rfl rfl rfl ?_
    refine V.yes rfl rfl rfl ?_
    refine V.call (dset_nil FB) rfl rfl rfl ?_
    rintro _ w11_ ⟨rfl, rfl⟩
    refine V.run T_ok 4 rfl ?_
    refine V.yes rfl rfl rfl ?_
    refine V.call (dsync_nil) rfl rfl rfl ?_
    rintro _ w11_ ⟨rfl, rfl⟩
    refine V.run T_ok 4 rfl ?_
    refine V.yes rfl rfl rfl ?_
    refine V.call (dfile_nil) rfl rfl rfl ?_
    rintro _ w11_ ⟨rfl, rfl⟩
    refine V.run T_ok 5 rfl ?_
    refine V.yes rfl rfl rfl ?_
    refine V.call (dcell_nil) rfl rfl rfl ?_
    rintro _ w11_ ⟨rfl, rfl⟩
    refine V.run T_ok 5 rfl ?_
    refine V.yes rfl rfl rfl ?_
    refine V.call (ddirty_nil) rfl rfl rfl ?_
    rintro _ w20 ⟨rfl, G21⟩
    have z22 := V.Fr.size G21
    try replace FB := FB.gr G21
    try replace Fk2 := Fk2.gr G21
    replace HG := HG.grow G21
    clear G21
    refine V.run T_ok 5 rfl ?_
    refine V.yes rfl rfl rfl ?_
    refine V.loadO T_ok Fk2 rfl rfl rfl rfl rfl ?_
    refine V.run T_ok 1 rfl ?_
    refine V.yes rfl rfl rfl ?_
    refine V.loadO T_ok Fk2 rfl rfl rfl rfl rfl ?_
    refine V.run T_ok 1 rfl ?_
    refine V.yes rfl rfl rfl ?_
    refine V.loadO T_ok Fk2 rfl rfl rfl rfl rfl ?_
    refine V.yes rfl rfl rfl ?_
    refine V.call (dcrash_nil (keep := n) (torn := torn) (cell := cell)) rfl rfl rfl ?_
    rintro _ w20_ ⟨rfl, rfl⟩
    refine V.run T_ok 3 rfl ?_
    refine V.nil ?_
    refine V.tN ?_
    refine V.ret ?_
    refine V.done rfl ?_
    exact ⟨(by first | rfl | simp only [List.length_set]), HG⟩

set_option maxHeartbeats 4000000 in
set_option maxRecDepth 10000 in
theorem diskOwn_walk {w : World}  {D_b : Nat → Prop} {c_b : Nat} {a_b : Option Addr} {b : List UInt8} (F_b : Sl V.Cod.byte w D_b a_b c_b b) {D_c : Nat → Prop} {c_c : Nat} {a_c : Option Addr} {c : List UInt8} (F_c : Sl V.Cod.byte w D_c a_c c_c c)  :
    Meets Try.prog 4 [.slice a_b b.length c_b, .slice a_c c.length c_c] w fun r w' => r = .bool true ∧ Gr w w' := by
  replace F_b := F_b.flb
  replace F_c := F_c.flb
  have HG := V.Fr.refl [] w
  refine V.enter (n := 131) Try.func4 rfl rfl (by decide) rfl ?_
  refine V.seq ?_
  refine V.region ?_
  refine V.run T_ok 1 rfl ?_
  refine V.nil ?_
  refine V.tN ?_
  refine V.seq ?_
  refine V.seq ?_
  refine V.region ?_
  refine V.run T_ok 4 rfl ?_
  refine V.orG T_ok 3 3 18 rfl rfl rfl rfl rfl rfl rfl rfl ?_
  refine V.nil ?_
  refine V.tN ?_
  refine V.condT rfl (fun h1 => ?_) (fun h1 => ?_)
  ·
    try simp only [decide_eq_true_eq, decide_eq_false_iff_not, Bool.or_eq_true, Bool.and_eq_true, Bool.or_eq_false_iff, Bool.and_eq_false_iff, Bool.not_eq_true', Bool.not_eq_false', Int.not_lt, Int.not_le, Decidable.not_not, V.u8eq, V.S_inj, V.S_lit, V.S_lit2] at h1
    refine V.seq ?_
    refine V.region ?_
    refine V.call (alive_spec) rfl rfl rfl ?_
    rintro _ w1 ⟨rfl, G2⟩
    have z3 := V.Fr.size G2
    try replace F_b := F_b.gr G2
    try replace F_c := F_c.gr G2
    replace HG := HG.grow G2
    clear G2
    refine V.run T_ok 1 rfl ?_
    refine V.nil ?_
    refine V.tN ?_
    refine V.ret ?_
    refine V.tR ?_
    refine V.done rfl ?_
    exact ⟨(by first | rfl | simp only [List.length_set]), HG⟩
  ·
    try simp only [decide_eq_true_eq, decide_eq_false_iff_not, Bool.or_eq_true, Bool.and_eq_true, Bool.or_eq_false_iff, Bool.and_eq_false_iff, Bool.not_eq_true', Bool.not_eq_false', Int.not_lt, Int.not_le, Decidable.not_not, V.u8eq, V.S_inj, V.S_lit, V.S_lit2] at h1
    refine V.skip ?_
    refine V.tN ?_
    refine V.seq ?_
    refine V.region ?_
    refine V.call (dnew_spec) rfl rfl rfl ?_
    rintro _ w7 ⟨k4, rfl, F5, ⟨h6l, h6u⟩, G8⟩
    have z9 := V.Fr.size G8
    try replace F_b := F_b.gr G8
    try replace F_c := F_c.gr G8
    replace HG := HG.grow G8
    clear G8
    refine V.run T_ok 1 rfl ?_
    refine V.nil ?_
    refine V.tN ?_
    refine V.seq ?_
    refine V.region ?_
    refine V.mkSlice T_ok zero5 rfl rfl sz5 rfl rfl rfl rfl rfl rfl ?_
    rintro k10 w13 s15 s16 G14 Fk11
    have z17 := V.Fr.size G14
    try replace F_b := F_b.gr G14
    try replace F_c := F_c.gr G14
    try replace F5 := F5.gr G14
    replace HG := HG.grow G14
    clear G14
    have F12 := V.rowOfB (xs := ([] : List UInt8)) Fk11 rfl rfl
    clear Fk11
    refine V.run T_ok 1 rfl ?_
    refine V.appendR (F12) (V.From.flat V.flat_byte (D' := V.None') (F_b.from Try.underlying22)) elT22_22 rfl rfl rfl rfl rfl (by first | omega | (simp only [List.length_take, List.length_drop, List.length_append, List.length_cons, List.length_nil, List.length_replicate, List.length_set, V.length_data, V.S_size]; omega)) (by unfold maxLen; first | omega | (simp only [List.length_take, List.length_drop, List.length_append, List.length_cons, List.length_nil, List.length_replicate, List.length_set, V.length_data, V.S_size]; omega)) (by omega) (by omega) (fun _ h => h.elim) (fun _ h => h.elim) ?_
    rintro a18 c19 w21 G22 s23 F20
    clear F12
    have z24 := Go.RowKit.Below.size G22
    first | replace F_b := V.Sl.bl F_b G22 (by first | exact (fun _ h => by have := h.2; omega) | (intro k h; have := hD k h; omega)) | clear F_b | skip
    first | replace F_c := V.Sl.bl F_c G22 (by first | exact (fun _ h => by have := h.2; omega) | (intro k h; have := hD k h; omega)) | clear F_c | skip
    first | replace F5 := V.Cells.bl F5 G22 (by omega) | clear F5 | skip
    replace HG := HG.bl (Go.RowKit.Below.mono G22 (by omega))
    clear G22
    rw [List.nil_append] at F20 ⊢
    refine V.run T_ok 1 rfl ?_
    refine V.nil ?_
    refine V.tN ?_
    refine V.seq ?_
    refine V.region ?_
    refine V.mkSlice T_ok zero5 rfl rfl sz5 rfl rfl rfl rfl rfl rfl ?_
    rintro k25 w28 s30 s31 G29 Fk26
    have z32 := V.Fr.size G29
    try replace F_b := F_b.gr G29
    try replace F_c := F_c.gr G29
    try replace F5 := F5.gr G29
    try replace F20 := F20.gr G29
    replace HG := HG.grow G29
    clear G29
    have F27 := V.rowOfB (xs := ([] : List UInt8)) Fk26 rfl rfl
    clear Fk26
    refine V.run T_ok 1 rfl ?_
    refine V.appendR (F27) (V.From.flat V.flat_byte (D' := V.None') (F_c.from Try.underlying22)) elT22_22 rfl rfl rfl rfl rfl (by first | omega | (simp only [List.length_take, List.length_drop, List.length_append, List.length_cons, List.length_nil, List.length_replicate, List.length_set, V.length_data, V.S_size]; omega)) (by unfold maxLen; first | omega | (simp only [List.length_take, List.length_drop, List.length_append, List.length_cons, List.length_nil, List.length_replicate, List.length_set, V.length_data, V.S_size]; omega)) (by omega) (by omega) (fun _ h => h.elim) (fun _ h => h.elim) ?_
    rintro a33 c34 w36 G37 s38 F35
    clear F27
    have z39 := Go.RowKit.Below.size G37
    first | replace F_b := V.Sl.bl F_b G37 (by first | exact (fun _ h => by have := h.2; omega) | (intro k h; have := hD k h; omega)) | clear F_b | skip
    first | replace F_c := V.Sl.bl F_c G37 (by first | exact (fun _ h => by have := h.2; omega) | (intro k h; have := hD k h; omega)) | clear F_c | skip
    first | replace F5 := V.Cells.bl F5 G37 (by omega) | clear F5 | skip
    first | replace F20 := V.Row.bl F20 G37 (by first | exact ⟨fun _ h => h.elim, by omega⟩ | exact ⟨fun _ h => by have := h.2; omega, by omega⟩) | clear F20 | skip
    replace HG := HG.bl (Go.RowKit.Below.mono G37 (by omega))
    clear G37
    rw [List.nil_append] at F35 ⊢
    refine V.run T_ok 1 rfl ?_
    refine V.nil ?_
    refine V.tN ?_
    refine V.seq ?_
    refine V.region ?_
    refine V.run T_ok 2 rfl ?_
    have F40 := Dsk.nil (D := (fun j => w36.heap.size ≤ j)) F5 (by first | (intro h; exact h rfl) | (intro h; omega)) (by intro j hj; first | omega | exact ⟨by omega, by omega⟩)
    clear F5
    refine V.call (dappend_spec F40 F20.sl (by first | omega | (simp only [List.length_take, List.length_drop, List.length_append, List.length_cons, List.length_nil, List.length_replicate, List.length_set, V.length_data, V.S_size]; omega))) rfl rfl rfl ?_
    rintro _ w42 ⟨rfl, F41, G43⟩
    have z44 := V.Fr.size G43
    first | replace F_b := F_b.mv1 G43 (by first | exact (fun h => by have := h.1; have := h.2; omega) | exact (fun h => by omega) | exact (fun h => by have := h.1.1; have := h.1.2; omega) | exact (fun h => h.2 rfl) | exact (fun h => hnk h.1) | first | omega | exact fun h => h | exact ⟨by omega, fun h => h⟩ | (intro h; first | (have := hD _ h; omega)) | (refine ⟨by omega, ?_⟩; intro h; first | (have := hD _ h; omega))) | clear F_b | skip
    first | replace F_c := F_c.mv1 G43 (by first | exact (fun h => by have := h.1; have := h.2; omega) | exact (fun h => by omega) | exact (fun h => by have := h.1.1; have := h.1.2; omega) | exact (fun h => h.2 rfl) | exact (fun h => hnk h.1) | first | omega | exact fun h => h | exact ⟨by omega, fun h => h⟩ | (intro h; first | (have := hD _ h; omega)) | (refine ⟨by omega, ?_⟩; intro h; first | (have := hD _ h; omega))) | clear F_c | skip
    first | replace F20 := F20.mv1 G43 (by first | exact ⟨fun h => h, fun h => by have := h.1; have := h.2; omega⟩ | omega) | clear F20 | skip
    first | replace F35 := F35.mv1 G43 (by first | exact ⟨fun h => h, fun h => by have := h.1; have := h.2; omega⟩ | omega) | clear F35 | skip
    first | replace F40 := F40.mv1 G43 (by first | exact ⟨by omega, by assumption⟩ | exact ⟨by omega, fun h => absurd h.1 (by assumption)⟩ | exact ⟨by omega, fun h => absurd h.1.1 (by assumption)⟩ | exact ⟨by omega, fun h => by first | (have h2 := h.1; have h3 := h.2; omega) | (have h2 := h; dsimp only at h2; omega)⟩ | first | omega | exact fun h => h | exact ⟨by omega, fun h => h⟩ | (intro h; first | (have := hD _ h; omega)) | (refine ⟨by omega, ?_⟩; intro h; first | (have := hD _ h; omega))) | clear F40 | skip
    replace HG := HG.new1 G43 (by first | (refine Or.inr ?_; omega) | (refine Or.inl ?_; simp; done))
    clear G43
    refine V.nil ?_
    refine V.tN ?_
    refine V.seq ?_
    refine V.region ?_
    refine V.run T_ok 2 rfl ?_
    refine V.call (dset_spec F41 F35.sl (by first | omega | (simp only [List.length_take, List.length_drop, List.length_append, List.length_cons, List.length_nil, List.length_replicate, List.length_set, V.length_data, V.S_size]; omega))) rfl rfl rfl ?_
    rintro _ w46 ⟨rfl, F45, G47⟩
    have z48 := V.Fr.size G47
    first | replace F_b := F_b.mv1 G47 (by first | exact (fun h => by have := h.1; have := h.2; omega) | exact (fun h => by omega) | exact (fun h => by have := h.1.1; have := h.1.2; omega) | exact (fun h => h.2 rfl) | exact (fun h => hnk h.1) | first | omega | exact fun h => h | exact ⟨by omega, fun h => h⟩ | (intro h; first | (have := hD _ h; omega)) | (refine ⟨by omega, ?_⟩; intro h; first | (have := hD _ h; omega))) | clear F_b | skip
    first | replace F_c := F_c.mv1 G47 (by first | exact (fun h => by have := h.1; have := h.2; omega) | exact (fun h => by omega) | exact (fun h => by have := h.1.1; have := h.1.2; omega) | exact (fun h => h.2 rfl) | exact (fun h => hnk h.1) | first | omega | exact fun h => h | exact ⟨by omega, fun h => h⟩ | (intro h; first | (have := hD _ h; omega)) | (refine ⟨by omega, ?_⟩; intro h; first | (have := hD _ h; omega))) | clear F_c | skip
    first | replace F20 := F20.mv1 G47 (by first | exact ⟨fun h => h, fun h => by have := h.1; have := h.2; omega⟩ | omega) | clear F20 | skip
    first | replace F35 := F35.mv1 G47 (by first | exact ⟨fun h => h, fun h => by have := h.1; have := h.2; omega⟩ | omega) | clear F35 | skip
    first | replace F41 := F41.mv1 G47 (by first | exact ⟨by omega, by assumption⟩ | exact ⟨by omega, fun h => absurd h.1 (by assumption)⟩ | exact ⟨by omega, fun h => absurd h.1.1 (by assumption)⟩ | exact ⟨by omega, fun h => by first | (have h2 := h.1; have h3 := h.2; omega) | (have h2 := h; dsimp only at h2; omega)⟩ | first | omega | exact fun h => h | exact ⟨by omega, fun h => h⟩ | (intro h; first | (have := hD _ h; omega)) | (refine ⟨by omega, ?_⟩; intro h; first | (have := hD _ h; omega))) | clear F41 | skip
    replace HG := HG.new1 G47 (by first | (refine Or.inr ?_; omega) | (refine Or.inl ?_; simp; done))
    clear G47
    refine V.nil ?_
    refine V.tN ?_
    refine V.seq ?_
    refine V.region ?_
    refine V.run T_ok 1 rfl ?_
    refine V.call (dsync_spec F45) rfl rfl rfl ?_
    rintro _ w50 ⟨rfl, F49, G51⟩
    have z52 := V.Fr.size G51
    first | replace F_b := F_b.mv1 G51 (by first | exact (fun h => by have := h.1; have := h.2; omega) | exact (fun h => by omega) | exact (fun h => by have := h.1.1; have := h.1.2; omega) | exact (fun h => h.2 rfl) | exact (fun h => hnk h.1) | first | omega | exact fun h => h | exact ⟨by omega, fun h => h⟩ | (intro h; first | (have := hD _ h; omega)) | (refine ⟨by omega, ?_⟩; intro h; first | (have := hD _ h; omega))) | clear F_b | skip
    first | replace F_c := F_c.mv1 G51 (by first | exact (fun h => by have := h.1; have := h.2; omega) | exact (fun h => by omega) | exact (fun h => by have := h.1.1; have := h.1.2; omega) | exact (fun h => h.2 rfl) | exact (fun h => hnk h.1) | first | omega | exact fun h => h | exact ⟨by omega, fun h => h⟩ | (intro h; first | (have := hD _ h; omega)) | (refine ⟨by omega, ?_⟩; intro h; first | (have := hD _ h; omega))) | clear F_c | skip
    first | replace F20 := F20.mv1 G51 (by first | exact ⟨fun h => h, fun h => by have := h.1; have := h.2; omega⟩ | omega) | clear F20 | skip
    first | replace F35 := F35.mv1 G51 (by first | exact ⟨fun h => h, fun h => by have := h.1; have := h.2; omega⟩ | omega) | clear F35 | skip
    first | replace F45 := F45.mv1 G51 (by first | exact ⟨by omega, by assumption⟩ | exact ⟨by omega, fun h => absurd h.1 (by assumption)⟩ | exact ⟨by omega, fun h => absurd h.1.1 (by assumption)⟩ | exact ⟨by omega, fun h => by first | (have h2 := h.1; have h3 := h.2; omega) | (have h2 := h; dsimp only at h2; omega)⟩ | first | omega | exact fun h => h | exact ⟨by omega, fun h => h⟩ | (intro h; first | (have := hD _ h; omega)) | (refine ⟨by omega, ?_⟩; intro h; first | (have := hD _ h; omega))) | clear F45 | skip
    replace HG := HG.new1 G51 (by first | (refine Or.inr ?_; omega) | (refine Or.inl ?_; simp; done))
    clear G51
    refine V.nil ?_
    refine V.tN ?_
    refine V.seq ?_
    refine V.region ?_
    refine V.run T_ok 1 rfl ?_
    have hd53 : dSync (dSet (dAppend (⟨[], [], [], []⟩ : DiskV) b) c) = (⟨b, c, b, c⟩ : DiskV) := by rw [dAppend_ok (by simp; omega), dSet_ok (by omega)]; rfl
    rw [hd53] at F49
    clear hd53
    refine V.call (dcrash_spec (keep := 0) (torn := false) (cell := false) F49) rfl rfl rfl ?_
    rintro _ w57 ⟨k54, rfl, ⟨h55l, h55u⟩, F56, G58⟩
    have z59 := V.Fr.size G58
    try replace F_b := F_b.gr G58
    try replace F_c := F_c.gr G58
    try replace F20 := F20.gr G58
    try replace F35 := F35.gr G58
    try replace F49 := F49.gr G58
    replace HG := HG.grow G58
    clear G58
    refine V.run T_ok 1 rfl ?_
    refine V.nil ?_
    refine V.tN ?_
    refine V.seq ?_
    refine V.seq ?_
    refine V.region ?_
    refine V.run T_ok 2 rfl ?_
    refine V.nil ?_
    refine V.tN ?_
    refine V.condN rfl rfl ?_
    refine V.skip ?_
    refine V.tN ?_
    refine V.seq ?_
    refine V.seq ?_
    refine V.region ?_
    refine V.run T_ok 1 rfl ?_
    refine V.nil ?_
    refine V.tN ?_
    refine V.block ?_
    have hl62 := F20.sl.len63
    
    refine V.loopM (fun m e v65 => Fr [] w v65 ∧ w57.heap.size ≤ v65.heap.size ∧ Sl V.Cod.byte v65 (fun k => D_b k ∧ k < w.heap.size) a_b c_b b ∧ Sl V.Cod.byte v65 (fun k => D_c k ∧ k < w.heap.size) a_c c_c c ∧ V.Row V.Cod.byte 5 v65 V.None' k25 w36.heap.size a33 c34 c ∧ Dsk v65 k4 (fun j => w36.heap.size ≤ j) ((⟨b, c, b, c⟩ : DiskV)) ∧ Dsk v65 k54 (fun j => w50.heap.size ≤ j ∧ j ≠ k54) (dCrash (⟨b, c, b, c⟩ : DiskV) 0 false false) ∧ ∃ (ys60 : List UInt8) (i61 : Nat) , m = b.length - i61 ∧ ys60.length = b.length ∧ i61 ≤ b.length ∧ V.Row V.Cod.byte 5 v65 V.None' k10 w21.heap.size a18 c19 ys60 ∧ e 0 = .slice a_b b.length c_b ∧ e 1 = .slice a_c c.length c_c ∧ e 5 = .pointer (some ⟨k4, 0, none⟩) ∧ e 6 = .slice a18 b.length c19 ∧ e 7 = .slice a33 c.length c34 ∧ e 8 = .pointer (some ⟨k54, 0, none⟩) ∧ e 9 = .int .i64 (i61 : Int)) ?_ ?_
    ·
      exact ⟨_, HG, (by omega), F_b, F_c, F35, F49, F56, (b), (0), rfl, (rfl), (Nat.zero_le _), (by first | exact F20 | exact F20.mono (fun _ h => h) (by omega) (by omega)), rfl, rfl, rfl, rfl, rfl, rfl, rfl⟩
    try clear F20
    clear HG F_b F_c F35 F49 F56
    rintro _ e v65 ⟨HG, z66, F_b, F_c, F35, F49, F56, ys60, i61, rfl, hp0_0, hp0_1, F63, he0_0, he0_1, he0_5, he0_6, he0_7, he0_8, he0_9⟩
    refine V.knownC (t := 0) he0_0 ?_
    refine V.knownC (t := 1) he0_1 ?_
    refine V.knownC (t := 5) he0_5 ?_
    refine V.knownC (t := 6) he0_6 ?_
    refine V.knownC (t := 7) he0_7 ?_
    refine V.knownC (t := 8) he0_8 ?_
    refine V.knownC (t := 9) he0_9 ?_
    refine V.seq ?_
    refine V.seq ?_
    refine V.region ?_
    refine V.run T_ok 4 rfl ?_
    refine V.nil ?_
    refine V.tN ?_
    refine V.condT rfl (fun h13 => ?_) (fun h13 => ?_)
    ·
      try simp only [decide_eq_true_eq, decide_eq_false_iff_not, Bool.or_eq_true, Bool.and_eq_true, Bool.or_eq_false_iff, Bool.and_eq_false_iff, Bool.not_eq_true', Bool.not_eq_false', Int.not_lt, Int.not_le, Decidable.not_not, V.u8eq, V.S_inj, V.S_lit, V.S_lit2] at h13
      refine V.skip ?_
      refine V.tN ?_
      refine V.seq ?_
      refine V.block ?_
      refine V.region ?_
      refine V.run T_ok 4 rfl ?_
      obtain ⟨g72, hg72l, hg72u, F73⟩ := V.Row.own1 V.flat_byte F63 (by first | omega | (simp only [List.length_take, List.length_drop, List.length_append, List.length_cons, List.length_nil, List.length_replicate, List.length_set, V.length_data, V.S_size]; omega))
      clear F63
      refine V.elemO' T_ok F73 (by first | rfl | (first | omega | (simp only [List.length_take, List.length_drop, List.length_append, List.length_cons, List.length_nil, List.length_replicate, List.length_set, V.length_data, V.S_size]; omega))) rfl rfl sz5 rfl rfl rfl rfl (by first | omega | (simp only [List.length_take, List.length_drop, List.length_append, List.length_cons, List.length_nil, List.length_replicate, List.length_set, V.length_data, V.S_size]; omega)) (by first | omega | (simp only [List.length_take, List.length_drop, List.length_append, List.length_cons, List.length_nil, List.length_replicate, List.length_set, V.length_data, V.S_size]; omega)) ?_
      rintro hx68
      obtain ⟨cs71, hR69, hA70⟩ := V.Own.el F73 hx68
      obtain ⟨x67, hx67⟩ : ∃ z', ys60[((i61 : Int)).toNat] = z' := ⟨_, rfl⟩
      rw [hx67] at hR69
      obtain rfl := hR69
      try simp only [Int.toNat_natCast] at hx67 hx68
      refine V.loadA T_ok (o0 := ((i61 : Int)).toNat * V.Cod.byte.sz) (off := 0) hA70 rfl rfl rfl rfl rfl ?_
      refine V.run T_ok 1 rfl ?_
      refine V.elemO' T_ok F73 (by first | rfl | (first | omega | (simp only [List.length_take, List.length_drop, List.length_append, List.length_cons, List.length_nil, List.length_replicate, List.length_set, V.length_data, V.S_size]; omega))) rfl rfl sz5 rfl rfl rfl rfl (by first | omega | (simp only [List.length_take, List.length_drop, List.length_append, List.length_cons, List.length_nil, List.length_replicate, List.length_set, V.length_data, V.S_size]; omega)) (by first | omega | (simp only [List.length_take, List.length_drop, List.length_append, List.length_cons, List.length_nil, List.length_replicate, List.length_set, V.length_data, V.S_size]; omega)) ?_
      rintro hx75
      obtain ⟨cs78, hR76, hA77⟩ := V.Own.el F73 hx75
      obtain ⟨x74, hx74⟩ : ∃ z', ys60[((i61 : Int)).toNat] = z' := ⟨_, rfl⟩
      rw [hx74] at hR76
      obtain rfl := hR76
      try simp only [Int.toNat_natCast] at hx74 hx75
      refine V.storeS (D' := V.None') (j := ((i61 : Int)).toNat) (x' := (x67 + 1)) V.flat_byte F73 rfl rfl rfl (by first | omega | (simp only [List.length_take, List.length_drop, List.length_append, List.length_cons, List.length_nil, List.length_replicate, List.length_set, V.length_data, V.S_size]; omega)) rfl (V.cb1 (V.add8 x67 1)) rfl sz5 rfl rfl ?_
      rintro w79 G80 z81 Fnew
      clear F73
      have z82 := V.Fr.size G80
      first | replace F_b := F_b.mv1 G80 (by first | exact (fun h => by have := h.1; have := h.2; omega) | exact (fun h => by omega) | exact (fun h => by have := h.1.1; have := h.1.2; omega) | exact (fun h => h.2 rfl) | exact (fun h => hnk h.1) | first | omega | exact fun h => h | exact ⟨by omega, fun h => h⟩ | (intro h; first | (have := hD _ h; omega)) | (refine ⟨by omega, ?_⟩; intro h; first | (have := hD _ h; omega))) | clear F_b | skip
      first | replace F_c := F_c.mv1 G80 (by first | exact (fun h => by have := h.1; have := h.2; omega) | exact (fun h => by omega) | exact (fun h => by have := h.1.1; have := h.1.2; omega) | exact (fun h => h.2 rfl) | exact (fun h => hnk h.1) | first | omega | exact fun h => h | exact ⟨by omega, fun h => h⟩ | (intro h; first | (have := hD _ h; omega)) | (refine ⟨by omega, ?_⟩; intro h; first | (have := hD _ h; omega))) | clear F_c | skip
      first | replace F35 := F35.mv1 G80 (by first | exact ⟨fun h => h, fun h => by have := h.1; have := h.2; omega⟩ | omega) | clear F35 | skip
      first | replace F49 := F49.mv1 G80 (by first | exact ⟨by omega, by assumption⟩ | exact ⟨by omega, fun h => absurd h.1 (by assumption)⟩ | exact ⟨by omega, fun h => absurd h.1.1 (by assumption)⟩ | exact ⟨by omega, fun h => by first | (have h2 := h.1; have h3 := h.2; omega) | (have h2 := h; dsimp only at h2; omega)⟩ | first | omega | exact fun h => h | exact ⟨by omega, fun h => h⟩ | (intro h; first | (have := hD _ h; omega)) | (refine ⟨by omega, ?_⟩; intro h; first | (have := hD _ h; omega))) | clear F49 | skip
      first | replace F56 := F56.mv1 G80 (by first | exact ⟨by omega, by assumption⟩ | exact ⟨by omega, fun h => absurd h.1 (by assumption)⟩ | exact ⟨by omega, fun h => absurd h.1.1 (by assumption)⟩ | exact ⟨by omega, fun h => by first | (have h2 := h.1; have h3 := h.2; omega) | (have h2 := h; dsimp only at h2; omega)⟩ | first | omega | exact fun h => h | exact ⟨by omega, fun h => h⟩ | (intro h; first | (have := hD _ h; omega)) | (refine ⟨by omega, ?_⟩; intro h; first | (have := hD _ h; omega))) | clear F56 | skip
      replace HG := HG.new1 G80 (by first | (refine Or.inr ?_; omega) | (refine Or.inl ?_; simp; done))
      clear G80
      have F73 := Fnew; clear Fnew
      refine V.nil ?_
      refine V.bN ?_
      refine V.tN ?_
      refine V.region ?_
      refine V.run T_ok 1 rfl ?_
      refine V.addN rfl rfl rfl rfl rfl (by first | omega | (simp only [List.length_take, List.length_drop, List.length_append, List.length_cons, List.length_nil, List.length_replicate, List.length_set, V.length_data, V.S_size]; omega)) (by first | omega | (simp only [List.length_take, List.length_drop, List.length_append, List.length_cons, List.length_nil, List.length_replicate, List.length_set, V.length_data, V.S_size]; omega)) ?_
      refine V.run T_ok 1 rfl ?_
      refine V.nil ?_
      refine V.tN ?_
      exact ⟨_, (by omega), HG, (by omega), F_b, F_c, F35, F49, F56, (ys60.set (((i61 : Int)).toNat) (x67 + 1)), (i61 + 1), rfl, (by first | omega | (simp only [List.length_set]; omega)), (by omega), (by first | exact (V.Row.back F73 hg72l hg72u) | exact (V.Row.back F73 hg72l hg72u).mono (fun _ h => h) (by omega) (by omega)), rfl, rfl, rfl, rfl, rfl, rfl, rfl⟩
    ·
      try simp only [decide_eq_true_eq, decide_eq_false_iff_not, Bool.or_eq_true, Bool.and_eq_true, Bool.or_eq_false_iff, Bool.and_eq_false_iff, Bool.not_eq_true', Bool.not_eq_false', Int.not_lt, Int.not_le, Decidable.not_not, V.u8eq, V.S_inj, V.S_lit, V.S_lit2] at h13
      refine V.exit ?_
      refine V.tX ?_
      refine V.tX ?_
      refine V.bE ?_
      refine V.tN ?_
      refine V.seq ?_
      refine V.seq ?_
      refine V.region ?_
      refine V.run T_ok 1 rfl ?_
      refine V.nil ?_
      refine V.tN ?_
      refine V.block ?_
      have hl85 := F35.sl.len63
      
      refine V.loopM (fun m e v88 => Fr [] w v88 ∧ v65.heap.size ≤ v88.heap.size ∧ Sl V.Cod.byte v88 (fun k => D_b k ∧ k < w.heap.size) a_b c_b b ∧ Sl V.Cod.byte v88 (fun k => D_c k ∧ k < w.heap.size) a_c c_c c ∧ Dsk v88 k4 (fun j => w36.heap.size ≤ j) ((⟨b, c, b, c⟩ : DiskV)) ∧ Dsk v88 k54 (fun j => w50.heap.size ≤ j ∧ j ≠ k54) (dCrash (⟨b, c, b, c⟩ : DiskV) 0 false false) ∧ V.Row V.Cod.byte 5 v88 V.None' k10 w21.heap.size a18 c19 ys60 ∧ ∃ (ys83 : List UInt8) (i84 : Nat) , m = c.length - i84 ∧ ys83.length = c.length ∧ i84 ≤ c.length ∧ V.Row V.Cod.byte 5 v88 V.None' k25 w36.heap.size a33 c34 ys83 ∧ e 0 = .slice a_b b.length c_b ∧ e 1 = .slice a_c c.length c_c ∧ e 5 = .pointer (some ⟨k4, 0, none⟩) ∧ e 7 = .slice a33 c.length c34 ∧ e 8 = .pointer (some ⟨k54, 0, none⟩) ∧ e 10 = .int .i64 (i84 : Int)) ?_ ?_
      ·
        exact ⟨_, HG, (by omega), F_b, F_c, F49, F56, F63, (c), (0), rfl, (rfl), (Nat.zero_le _), (by first | exact F35 | exact F35.mono (fun _ h => h) (by omega) (by omega)), rfl, rfl, rfl, rfl, rfl, rfl⟩
      try clear F35
      clear HG F_b F_c F49 F56 F63
      rintro _ e v88 ⟨HG, z89, F_b, F_c, F49, F56, F63, ys83, i84, rfl, hp1_0, hp1_1, F86, he1_0, he1_1, he1_5, he1_7, he1_8, he1_10⟩
      refine V.knownC (t := 0) he1_0 ?_
      refine V.knownC (t := 1) he1_1 ?_
      refine V.knownC (t := 5) he1_5 ?_
      refine V.knownC (t := 7) he1_7 ?_
      refine V.knownC (t := 8) he1_8 ?_
      refine V.knownC (t := 10) he1_10 ?_
      refine V.seq ?_
      refine V.seq ?_
      refine V.region ?_
      refine V.run T_ok 4 rfl ?_
      refine V.nil ?_
      refine V.tN ?_
      refine V.condT rfl (fun h17 => ?_) (fun h17 => ?_)
      ·
        try simp only [decide_eq_true_eq, decide_eq_false_iff_not, Bool.or_eq_true, Bool.and_eq_true, Bool.or_eq_false_iff, Bool.and_eq_false_iff, Bool.not_eq_true', Bool.not_eq_false', Int.not_lt, Int.not_le, Decidable.not_not, V.u8eq, V.S_inj, V.S_lit, V.S_lit2] at h17
        refine V.skip ?_
        refine V.tN ?_
        refine V.seq ?_
        refine V.block ?_
        refine V.region ?_
        refine V.run T_ok 4 rfl ?_
        obtain ⟨g95, hg95l, hg95u, F96⟩ := V.Row.own1 V.flat_byte F86 (by first | omega | (simp only [List.length_take, List.length_drop, List.length_append, List.length_cons, List.length_nil, List.length_replicate, List.length_set, V.length_data, V.S_size]; omega))
        clear F86
        refine V.elemO' T_ok F96 (by first | rfl | (first | omega | (simp only [List.length_take, List.length_drop, List.length_append, List.length_cons, List.length_nil, List.length_replicate, List.length_set, V.length_data, V.S_size]; omega))) rfl rfl sz5 rfl rfl rfl rfl (by first | omega | (simp only [List.length_take, List.length_drop, List.length_append, List.length_cons, List.length_nil, List.length_replicate, List.length_set, V.length_data, V.S_size]; omega)) (by first | omega | (simp only [List.length_take, List.length_drop, List.length_append, List.length_cons, List.length_nil, List.length_replicate, List.length_set, V.length_data, V.S_size]; omega)) ?_
        rintro hx91
        obtain ⟨cs94, hR92, hA93⟩ := V.Own.el F96 hx91
        obtain ⟨x90, hx90⟩ : ∃ z', ys83[((i84 : Int)).toNat] = z' := ⟨_, rfl⟩
        rw [hx90] at hR92
        obtain rfl := hR92
        try simp only [Int.toNat_natCast] at hx90 hx91
        refine V.loadA T_ok (o0 := ((i84 : Int)).toNat * V.Cod.byte.sz) (off := 0) hA93 rfl rfl rfl rfl rfl ?_
        refine V.run T_ok 1 rfl ?_
        refine V.elemO' T_ok F96 (by first | rfl | (first | omega | (simp only [List.length_take, List.length_drop, List.length_append, List.length_cons, List.length_nil, List.length_replicate, List.length_set, V.length_data, V.S_size]; omega))) rfl rfl sz5 rfl rfl rfl rfl (by first | omega | (simp only [List.length_take, List.length_drop, List.length_append, List.length_cons, List.length_nil, List.length_replicate, List.length_set, V.length_data, V.S_size]; omega)) (by first | omega | (simp only [List.length_take, List.length_drop, List.length_append, List.length_cons, List.length_nil, List.length_replicate, List.length_set, V.length_data, V.S_size]; omega)) ?_
        rintro hx98
        obtain ⟨cs101, hR99, hA100⟩ := V.Own.el F96 hx98
        obtain ⟨x97, hx97⟩ : ∃ z', ys83[((i84 : Int)).toNat] = z' := ⟨_, rfl⟩
        rw [hx97] at hR99
        obtain rfl := hR99
        try simp only [Int.toNat_natCast] at hx97 hx98
        refine V.storeS (D' := V.None') (j := ((i84 : Int)).toNat) (x' := (x90 + 1)) V.flat_byte F96 rfl rfl rfl (by first | omega | (simp only [List.length_take, List.length_drop, List.length_append, List.length_cons, List.length_nil, List.length_replicate, List.length_set, V.length_data, V.S_size]; omega)) rfl (V.cb1 (V.add8 x90 1)) rfl sz5 rfl rfl ?_
        rintro w102 G103 z104 Fnew
        clear F96
        have z105 := V.Fr.size G103
        first | replace F_b := F_b.mv1 G103 (by first | exact (fun h => by have := h.1; have := h.2; omega) | exact (fun h => by omega) | exact (fun h => by have := h.1.1; have := h.1.2; omega) | exact (fun h => h.2 rfl) | exact (fun h => hnk h.1) | first | omega | exact fun h => h | exact ⟨by omega, fun h => h⟩ | (intro h; first | (have := hD _ h; omega)) | (refine ⟨by omega, ?_⟩; intro h; first | (have := hD _ h; omega))) | clear F_b | skip
        first | replace F_c := F_c.mv1 G103 (by first | exact (fun h => by have := h.1; have := h.2; omega) | exact (fun h => by omega) | exact (fun h => by have := h.1.1; have := h.1.2; omega) | exact (fun h => h.2 rfl) | exact (fun h => hnk h.1) | first | omega | exact fun h => h | exact ⟨by omega, fun h => h⟩ | (intro h; first | (have := hD _ h; omega)) | (refine ⟨by omega, ?_⟩; intro h; first | (have := hD _ h; omega))) | clear F_c | skip
        first | replace F49 := F49.mv1 G103 (by first | exact ⟨by omega, by assumption⟩ | exact ⟨by omega, fun h => absurd h.1 (by assumption)⟩ | exact ⟨by omega, fun h => absurd h.1.1 (by assumption)⟩ | exact ⟨by omega, fun h => by first | (have h2 := h.1; have h3 := h.2; omega) | (have h2 := h; dsimp only at h2; omega)⟩ | first | omega | exact fun h => h | exact ⟨by omega, fun h => h⟩ | (intro h; first | (have := hD _ h; omega)) | (refine ⟨by omega, ?_⟩; intro h; first | (have := hD _ h; omega))) | clear F49 | skip
        first | replace F56 := F56.mv1 G103 (by first | exact ⟨by omega, by assumption⟩ | exact ⟨by omega, fun h => absurd h.1 (by assumption)⟩ | exact ⟨by omega, fun h => absurd h.1.1 (by assumption)⟩ | exact ⟨by omega, fun h => by first | (have h2 := h.1; have h3 := h.2; omega) | (have h2 := h; dsimp only at h2; omega)⟩ | first | omega | exact fun h => h | exact ⟨by omega, fun h => h⟩ | (intro h; first | (have := hD _ h; omega)) | (refine ⟨by omega, ?_⟩; intro h; first | (have := hD _ h; omega))) | clear F56 | skip
        first | replace F63 := F63.mv1 G103 (by first | exact ⟨fun h => h, fun h => by have := h.1; have := h.2; omega⟩ | omega) | clear F63 | skip
        replace HG := HG.new1 G103 (by first | (refine Or.inr ?_; omega) | (refine Or.inl ?_; simp; done))
        clear G103
        have F96 := Fnew; clear Fnew
        refine V.nil ?_
        refine V.bN ?_
        refine V.tN ?_
        refine V.region ?_
        refine V.run T_ok 1 rfl ?_
        refine V.addN rfl rfl rfl rfl rfl (by first | omega | (simp only [List.length_take, List.length_drop, List.length_append, List.length_cons, List.length_nil, List.length_replicate, List.length_set, V.length_data, V.S_size]; omega)) (by first | omega | (simp only [List.length_take, List.length_drop, List.length_append, List.length_cons, List.length_nil, List.length_replicate, List.length_set, V.length_data, V.S_size]; omega)) ?_
        refine V.run T_ok 1 rfl ?_
        refine V.nil ?_
        refine V.tN ?_
        exact ⟨_, (by omega), HG, (by omega), F_b, F_c, F49, F56, F63, (ys83.set (((i84 : Int)).toNat) (x90 + 1)), (i84 + 1), rfl, (by first | omega | (simp only [List.length_set]; omega)), (by omega), (by first | exact (V.Row.back F96 hg95l hg95u) | exact (V.Row.back F96 hg95l hg95u).mono (fun _ h => h) (by omega) (by omega)), rfl, rfl, rfl, rfl, rfl, rfl⟩
      ·
        try simp only [decide_eq_true_eq, decide_eq_false_iff_not, Bool.or_eq_true, Bool.and_eq_true, Bool.or_eq_false_iff, Bool.and_eq_false_iff, Bool.not_eq_true', Bool.not_eq_false', Int.not_lt, Int.not_le, Decidable.not_not, V.u8eq, V.S_inj, V.S_lit, V.S_lit2] at h17
        refine V.exit ?_
        refine V.tX ?_
        refine V.tX ?_
        refine V.bE ?_
        refine V.tN ?_
        refine V.seq ?_
        refine V.region ?_
        refine V.run T_ok 1 rfl ?_
        have hd106 : dCrash (⟨b, c, b, c⟩ : DiskV) 0 false false = (⟨b, c, b, c⟩ : DiskV) := dCrash_safe
        rw [hd106] at F56
        clear hd106
        have FDs5 := F49
        have FDs8 := F56
        have GX := V.Fr.refl [] v88
        refine V.call (dfile_spec F49) rfl rfl rfl ?_
        rintro _ w110 ⟨a107, c108, rfl, F109, G111⟩
        have z112 := V.Fr.size G111
        try replace F_b := F_b.gr G111
        try replace F_c := F_c.gr G111
        try replace F49 := F49.gr G111
        try replace F56 := F56.gr G111
        try replace F63 := F63.gr G111
        try replace F86 := F86.gr G111
        try replace GX := GX.gr G111
        replace HG := HG.grow G111
        clear G111
        refine V.run T_ok 1 rfl ?_
        refine V.nil ?_
        refine V.tN ?_
        refine V.seq ?_
        refine V.region ?_
        refine V.run T_ok 1 rfl ?_
        refine V.call (dcell_spec F49) rfl rfl rfl ?_
        rintro _ w116 ⟨a113, c114, rfl, F115, G117⟩
        have z118 := V.Fr.size G117
        try replace F_b := F_b.gr G117
        try replace F_c := F_c.gr G117
        try replace F49 := F49.gr G117
        try replace F56 := F56.gr G117
        try replace F63 := F63.gr G117
        try replace F86 := F86.gr G117
        try replace GX := GX.gr G117
        try replace F109 := F109.gr G117
        replace HG := HG.grow G117
        clear G117
        refine V.run T_ok 1 rfl ?_
        refine V.nil ?_
        refine V.tN ?_
        refine V.seq ?_
        refine V.seq ?_
        refine V.region ?_
        refine V.run T_ok 1 rfl ?_
        refine V.nil ?_
        refine V.tN ?_
        refine V.block ?_
        have hl121 := F109.sl.len63
        replace F49 := FDs5.cut GX
        replace F56 := FDs8.cut GX
        clear GX
        
        refine V.loopM (fun m e v124 => Fr [] w v124 ∧ w116.heap.size ≤ v124.heap.size ∧ Sl V.Cod.byte v124 (fun k => D_b k ∧ k < w.heap.size) a_b c_b b ∧ Sl V.Cod.byte v124 (fun k => D_c k ∧ k < w.heap.size) a_c c_c c ∧ Dsk v124 k4 (fun j => (fun j => w36.heap.size ≤ j) j ∧ (j < v88.heap.size ∨ w116.heap.size ≤ j)) ((⟨b, c, b, c⟩ : DiskV)) ∧ Dsk v124 k54 (fun j => (fun j => w50.heap.size ≤ j ∧ j ≠ k54) j ∧ (j < v88.heap.size ∨ w116.heap.size ≤ j)) ((⟨b, c, b, c⟩ : DiskV)) ∧ V.Row V.Cod.byte 5 v124 V.None' k10 w21.heap.size a18 c19 ys60 ∧ V.Row V.Cod.byte 5 v124 V.None' k25 w36.heap.size a33 c34 ys83 ∧ V.Row V.Cod.byte 5 v124 V.None' w110.heap.size w116.heap.size a113 c114 c ∧ ∃ (ys119 : List UInt8) (i120 : Nat) , m = b.length - i120 ∧ ys119.length = b.length ∧ i120 ≤ b.length ∧ V.Row V.Cod.byte 5 v124 V.None' v88.heap.size w110.heap.size a107 c108 ys119 ∧ e 0 = .slice a_b b.length c_b ∧ e 1 = .slice a_c c.length c_c ∧ e 5 = .pointer (some ⟨k4, 0, none⟩) ∧ e 8 = .pointer (some ⟨k54, 0, none⟩) ∧ e 11 = .slice a107 b.length c108 ∧ e 12 = .slice a113 c.length c114 ∧ e 13 = .int .i64 (i120 : Int)) ?_ ?_
        ·
          exact ⟨_, HG, (by omega), F_b, F_c, F49, F56, F63, F86, F115, (b), (0), rfl, (rfl), (Nat.zero_le _), (by first | exact F109 | exact F109.mono (fun _ h => h) (by omega) (by omega)), rfl, rfl, rfl, rfl, rfl, rfl, rfl⟩
        try clear F109
        clear HG F_b F_c F49 F56 F63 F86 F115
        rintro _ e v124 ⟨HG, z125, F_b, F_c, F49, F56, F63, F86, F115, ys119, i120, rfl, hp2_0, hp2_1, F122, he2_0, he2_1, he2_5, he2_8, he2_11, he2_12, he2_13⟩
        refine V.knownC (t := 0) he2_0 ?_
        refine V.knownC (t := 1) he2_1 ?_
        refine V.knownC (t := 5) he2_5 ?_
        refine V.knownC (t := 8) he2_8 ?_
        refine V.knownC (t := 11) he2_11 ?_
        refine V.knownC (t := 12) he2_12 ?_
        refine V.knownC (t := 13) he2_13 ?_
        refine V.seq ?_
        refine V.seq ?_
        refine V.region ?_
        refine V.run T_ok 4 rfl ?_
        refine V.nil ?_
        refine V.tN ?_
        refine V.condT rfl (fun h23 => ?_) (fun h23 => ?_)
        ·
          try simp only [decide_eq_true_eq, decide_eq_false_iff_not, Bool.or_eq_true, Bool.and_eq_true, Bool.or_eq_false_iff, Bool.and_eq_false_iff, Bool.not_eq_true', Bool.not_eq_false', Int.not_lt, Int.not_le, Decidable.not_not, V.u8eq, V.S_inj, V.S_lit, V.S_lit2] at h23
          refine V.skip ?_
          refine V.tN ?_
          refine V.seq ?_
          refine V.block ?_
          refine V.region ?_
          refine V.run T_ok 2 rfl ?_
          obtain ⟨g131, hg131l, hg131u, F132⟩ := V.Row.own1 V.flat_byte F122 (by first | omega | (simp only [List.length_take, List.length_drop, List.length_append, List.length_cons, List.length_nil, List.length_replicate, List.length_set, V.length_data, V.S_size]; omega))
          clear F122
          refine V.elemO' T_ok F132 (by first | rfl | (first | omega | (simp only [List.length_take, List.length_drop, List.length_append, List.length_cons, List.length_nil, List.length_replicate, List.length_set, V.length_data, V.S_size]; omega))) rfl rfl sz5 rfl rfl rfl rfl (by first | omega | (simp only [List.length_take, List.length_drop, List.length_append, List.length_cons, List.length_nil, List.length_replicate, List.length_set, V.length_data, V.S_size]; omega)) (by first | omega | (simp only [List.length_take, List.length_drop, List.length_append, List.length_cons, List.length_nil, List.length_replicate, List.length_set, V.length_data, V.S_size]; omega)) ?_
          rintro hx127
          obtain ⟨cs130, hR128, hA129⟩ := V.Own.el F132 hx127
          obtain ⟨x126, hx126⟩ : ∃ z', ys119[((i120 : Int)).toNat] = z' := ⟨_, rfl⟩
          rw [hx126] at hR128
          obtain rfl := hR128
          try simp only [Int.toNat_natCast] at hx126 hx127
          refine V.storeS (D' := V.None') (j := ((i120 : Int)).toNat) (x' := 0) V.flat_byte F132 rfl rfl rfl (by first | omega | (simp only [List.length_take, List.length_drop, List.length_append, List.length_cons, List.length_nil, List.length_replicate, List.length_set, V.length_data, V.S_size]; omega)) rfl rfl rfl sz5 rfl rfl ?_
          rintro w133 G134 z135 Fnew
          clear F132
          have z136 := V.Fr.size G134
          first | replace F_b := F_b.mv1 G134 (by first | exact (fun h => by have := h.1; have := h.2; omega) | exact (fun h => by omega) | exact (fun h => by have := h.1.1; have := h.1.2; omega) | exact (fun h => h.2 rfl) | exact (fun h => hnk h.1) | first | omega | exact fun h => h | exact ⟨by omega, fun h => h⟩ | (intro h; first | (have := hD _ h; omega)) | (refine ⟨by omega, ?_⟩; intro h; first | (have := hD _ h; omega))) | clear F_b | skip
          first | replace F_c := F_c.mv1 G134 (by first | exact (fun h => by have := h.1; have := h.2; omega) | exact (fun h => by omega) | exact (fun h => by have := h.1.1; have := h.1.2; omega) | exact (fun h => h.2 rfl) | exact (fun h => hnk h.1) | first | omega | exact fun h => h | exact ⟨by omega, fun h => h⟩ | (intro h; first | (have := hD _ h; omega)) | (refine ⟨by omega, ?_⟩; intro h; first | (have := hD _ h; omega))) | clear F_c | skip
          first | replace F49 := F49.mv1 G134 (by first | exact ⟨by omega, by assumption⟩ | exact ⟨by omega, fun h => absurd h.1 (by assumption)⟩ | exact ⟨by omega, fun h => absurd h.1.1 (by assumption)⟩ | exact ⟨by omega, fun h => by first | (have h2 := h.1; have h3 := h.2; omega) | (have h2 := h; dsimp only at h2; omega)⟩ | first | omega | exact fun h => h | exact ⟨by omega, fun h => h⟩ | (intro h; first | (have := hD _ h; omega)) | (refine ⟨by omega, ?_⟩; intro h; first | (have := hD _ h; omega))) | clear F49 | skip
          first | replace F56 := F56.mv1 G134 (by first | exact ⟨by omega, by assumption⟩ | exact ⟨by omega, fun h => absurd h.1 (by assumption)⟩ | exact ⟨by omega, fun h => absurd h.1.1 (by assumption)⟩ | exact ⟨by omega, fun h => by first | (have h2 := h.1; have h3 := h.2; omega) | (have h2 := h; dsimp only at h2; omega)⟩ | first | omega | exact fun h => h | exact ⟨by omega, fun h => h⟩ | (intro h; first | (have := hD _ h; omega)) | (refine ⟨by omega, ?_⟩; intro h; first | (have := hD _ h; omega))) | clear F56 | skip
          first | replace F63 := F63.mv1 G134 (by first | exact ⟨fun h => h, fun h => by have := h.1; have := h.2; omega⟩ | omega) | clear F63 | skip
          first | replace F86 := F86.mv1 G134 (by first | exact ⟨fun h => h, fun h => by have := h.1; have := h.2; omega⟩ | omega) | clear F86 | skip
          first | replace F115 := F115.mv1 G134 (by first | exact ⟨fun h => h, fun h => by have := h.1; have := h.2; omega⟩ | omega) | clear F115 | skip
          replace HG := HG.new1 G134 (by first | (refine Or.inr ?_; omega) | (refine Or.inl ?_; simp; done))
          clear G134
          have F132 := Fnew; clear Fnew
          refine V.nil ?_
          refine V.bN ?_
          refine V.tN ?_
          refine V.region ?_
          refine V.run T_ok 1 rfl ?_
          refine V.addN rfl rfl rfl rfl rfl (by first | omega | (simp only [List.length_take, List.length_drop, List.length_append, List.length_cons, List.length_nil, List.length_replicate, List.length_set, V.length_data, V.S_size]; omega)) (by first | omega | (simp only [List.length_take, List.length_drop, List.length_append, List.length_cons, List.length_nil, List.length_replicate, List.length_set, V.length_data, V.S_size]; omega)) ?_
          refine V.run T_ok 1 rfl ?_
          refine V.nil ?_
          refine V.tN ?_
          exact ⟨_, (by omega), HG, (by omega), F_b, F_c, F49, F56, F63, F86, F115, (ys119.set (((i120 : Int)).toNat) 0), (i120 + 1), rfl, (by first | omega | (simp only [List.length_set]; omega)), (by omega), (by first | exact (V.Row.back F132 hg131l hg131u) | exact (V.Row.back F132 hg131l hg131u).mono (fun _ h => h) (by omega) (by omega)), rfl, rfl, rfl, rfl, rfl, rfl, rfl⟩
        ·
          try simp only [decide_eq_true_eq, decide_eq_false_iff_not, Bool.or_eq_true, Bool.and_eq_true, Bool.or_eq_false_iff, Bool.and_eq_false_iff, Bool.not_eq_true', Bool.not_eq_false', Int.not_lt, Int.not_le, Decidable.not_not, V.u8eq, V.S_inj, V.S_lit, V.S_lit2] at h23
          refine V.exit ?_
          refine V.tX ?_
          refine V.tX ?_
          refine V.bE ?_
          refine V.tN ?_
          refine V.seq ?_
          refine V.seq ?_
          refine V.region ?_
          refine V.run T_ok 1 rfl ?_
          refine V.nil ?_
          refine V.tN ?_
          refine V.block ?_
          have hl139 := F115.sl.len63
          
          refine V.loopM (fun m e v142 => Fr [] w v142 ∧ v124.heap.size ≤ v142.heap.size ∧ Sl V.Cod.byte v142 (fun k => D_b k ∧ k < w.heap.size) a_b c_b b ∧ Sl V.Cod.byte v142 (fun k => D_c k ∧ k < w.heap.size) a_c c_c c ∧ Dsk v142 k4 (fun j => (fun j => w36.heap.size ≤ j) j ∧ (j < v88.heap.size ∨ w116.heap.size ≤ j)) ((⟨b, c, b, c⟩ : DiskV)) ∧ Dsk v142 k54 (fun j => (fun j => w50.heap.size ≤ j ∧ j ≠ k54) j ∧ (j < v88.heap.size ∨ w116.heap.size ≤ j)) ((⟨b, c, b, c⟩ : DiskV)) ∧ V.Row V.Cod.byte 5 v142 V.None' k10 w21.heap.size a18 c19 ys60 ∧ V.Row V.Cod.byte 5 v142 V.None' k25 w36.heap.size a33 c34 ys83 ∧ V.Row V.Cod.byte 5 v142 V.None' v88.heap.size w110.heap.size a107 c108 ys119 ∧ ∃ (ys137 : List UInt8) (i138 : Nat) , m = c.length - i138 ∧ ys137.length = c.length ∧ i138 ≤ c.length ∧ V.Row V.Cod.byte 5 v142 V.None' w110.heap.size w116.heap.size a113 c114 ys137 ∧ e 0 = .slice a_b b.length c_b ∧ e 1 = .slice a_c c.length c_c ∧ e 5 = .pointer (some ⟨k4, 0, none⟩) ∧ e 8 = .pointer (some ⟨k54, 0, none⟩) ∧ e 12 = .slice a113 c.length c114 ∧ e 14 = .int .i64 (i138 : Int)) ?_ ?_
          ·
            exact ⟨_, HG, (by omega), F_b, F_c, F49, F56, F63, F86, F122, (c), (0), rfl, (rfl), (Nat.zero_le _), (by first | exact F115 | exact F115.mono (fun _ h => h) (by omega) (by omega)), rfl, rfl, rfl, rfl, rfl, rfl⟩
          try clear F115
          clear HG F_b F_c F49 F56 F63 F86 F122
          rintro _ e v142 ⟨HG, z143, F_b, F_c, F49, F56, F63, F86, F122, ys137, i138, rfl, hp3_0, hp3_1, F140, he3_0, he3_1, he3_5, he3_8, he3_12, he3_14⟩
          refine V.knownC (t := 0) he3_0 ?_
          refine V.knownC (t := 1) he3_1 ?_
          refine V.knownC (t := 5) he3_5 ?_
          refine V.knownC (t := 8) he3_8 ?_
          refine V.knownC (t := 12) he3_12 ?_
          refine V.knownC (t := 14) he3_14 ?_
          refine V.seq ?_
          refine V.seq ?_
          refine V.region ?_
          refine V.run T_ok 4 rfl ?_
          refine V.nil ?_
          refine V.tN ?_
          refine V.condT rfl (fun h27 => ?_) (fun h27 => ?_)
          ·
            try simp only [decide_eq_true_eq, decide_eq_false_iff_not, Bool.or_eq_true, Bool.and_eq_true, Bool.or_eq_false_iff, Bool.and_eq_false_iff, Bool.not_eq_true', Bool.not_eq_false', Int.not_lt, Int.not_le, Decidable.not_not, V.u8eq, V.S_inj, V.S_lit, V.S_lit2] at h27
            refine V.skip ?_
            refine V.tN ?_
            refine V.seq ?_
            refine V.block ?_
            refine V.region ?_
            refine V.run T_ok 2 rfl ?_
            obtain ⟨g149, hg149l, hg149u, F150⟩ := V.Row.own1 V.flat_byte F140 (by first | omega | (simp only [List.length_take, List.length_drop, List.length_append, List.length_cons, List.length_nil, List.length_replicate, List.length_set, V.length_data, V.S_size]; omega))
            clear F140
            refine V.elemO' T_ok F150 (by first | rfl | (first | omega | (simp only [List.length_take, List.length_drop, List.length_append, List.length_cons, List.length_nil, List.length_replicate, List.length_set, V.length_data, V.S_size]; omega))) rfl rfl sz5 rfl rfl rfl rfl (by first | omega | (simp only [List.length_take, List.length_drop, List.length_append, List.length_cons, List.length_nil, List.length_replicate, List.length_set, V.length_data, V.S_size]; omega)) (by first | omega | (simp only [List.length_take, List.length_drop, List.length_append, List.length_cons, List.length_nil, List.length_replicate, List.length_set, V.length_data, V.S_size]; omega)) ?_
            rintro hx145
            obtain ⟨cs148, hR146, hA147⟩ := V.Own.el F150 hx145
            obtain ⟨x144, hx144⟩ : ∃ z', ys137[((i138 : Int)).toNat] = z' := ⟨_, rfl⟩
            rw [hx144] at hR146
            obtain rfl := hR146
            try simp only [Int.toNat_natCast] at hx144 hx145
            refine V.storeS (D' := V.None') (j := ((i138 : Int)).toNat) (x' := 0) V.flat_byte F150 rfl rfl rfl (by first | omega | (simp only [List.length_take, List.length_drop, List.length_append, List.length_cons, List.length_nil, List.length_replicate, List.length_set, V.length_data, V.S_size]; omega)) rfl rfl rfl sz5 rfl rfl ?_
            rintro w151 G152 z153 Fnew
            clear F150
            have z154 := V.Fr.size G152
            first | replace F_b := F_b.mv1 G152 (by first | exact (fun h => by have := h.1; have := h.2; omega) | exact (fun h => by omega) | exact (fun h => by have := h.1.1; have := h.1.2; omega) | exact (fun h => h.2 rfl) | exact (fun h => hnk h.1) | first | omega | exact fun h => h | exact ⟨by omega, fun h => h⟩ | (intro h; first | (have := hD _ h; omega)) | (refine ⟨by omega, ?_⟩; intro h; first | (have := hD _ h; omega))) | clear F_b | skip
            first | replace F_c := F_c.mv1 G152 (by first | exact (fun h => by have := h.1; have := h.2; omega) | exact (fun h => by omega) | exact (fun h => by have := h.1.1; have := h.1.2; omega) | exact (fun h => h.2 rfl) | exact (fun h => hnk h.1) | first | omega | exact fun h => h | exact ⟨by omega, fun h => h⟩ | (intro h; first | (have := hD _ h; omega)) | (refine ⟨by omega, ?_⟩; intro h; first | (have := hD _ h; omega))) | clear F_c | skip
            first | replace F49 := F49.mv1 G152 (by first | exact ⟨by omega, by assumption⟩ | exact ⟨by omega, fun h => absurd h.1 (by assumption)⟩ | exact ⟨by omega, fun h => absurd h.1.1 (by assumption)⟩ | exact ⟨by omega, fun h => by first | (have h2 := h.1; have h3 := h.2; omega) | (have h2 := h; dsimp only at h2; omega)⟩ | first | omega | exact fun h => h | exact ⟨by omega, fun h => h⟩ | (intro h; first | (have := hD _ h; omega)) | (refine ⟨by omega, ?_⟩; intro h; first | (have := hD _ h; omega))) | clear F49 | skip
            first | replace F56 := F56.mv1 G152 (by first | exact ⟨by omega, by assumption⟩ | exact ⟨by omega, fun h => absurd h.1 (by assumption)⟩ | exact ⟨by omega, fun h => absurd h.1.1 (by assumption)⟩ | exact ⟨by omega, fun h => by first | (have h2 := h.1; have h3 := h.2; omega) | (have h2 := h; dsimp only at h2; omega)⟩ | first | omega | exact fun h => h | exact ⟨by omega, fun h => h⟩ | (intro h; first | (have := hD _ h; omega)) | (refine ⟨by omega, ?_⟩; intro h; first | (have := hD _ h; omega))) | clear F56 | skip
            first | replace F63 := F63.mv1 G152 (by first | exact ⟨fun h => h, fun h => by have := h.1; have := h.2; omega⟩ | omega) | clear F63 | skip
            first | replace F86 := F86.mv1 G152 (by first | exact ⟨fun h => h, fun h => by have := h.1; have := h.2; omega⟩ | omega) | clear F86 | skip
            first | replace F122 := F122.mv1 G152 (by first | exact ⟨fun h => h, fun h => by have := h.1; have := h.2; omega⟩ | omega) | clear F122 | skip
            replace HG := HG.new1 G152 (by first | (refine Or.inr ?_; omega) | (refine Or.inl ?_; simp; done))
            clear G152
            have F150 := Fnew; clear Fnew
            refine V.nil ?_
            refine V.bN ?_
            refine V.tN ?_
            refine V.region ?_
            refine V.run T_ok 1 rfl ?_
            refine V.addN rfl rfl rfl rfl rfl (by first | omega | (simp only [List.length_take, List.length_drop, List.length_append, List.length_cons, List.length_nil, List.length_replicate, List.length_set, V.length_data, V.S_size]; omega)) (by first | omega | (simp only [List.length_take, List.length_drop, List.length_append, List.length_cons, List.length_nil, List.length_replicate, List.length_set, V.length_data, V.S_size]; omega)) ?_
            refine V.run T_ok 1 rfl ?_
            refine V.nil ?_
            refine V.tN ?_
            exact ⟨_, (by omega), HG, (by omega), F_b, F_c, F49, F56, F63, F86, F122, (ys137.set (((i138 : Int)).toNat) 0), (i138 + 1), rfl, (by first | omega | (simp only [List.length_set]; omega)), (by omega), (by first | exact (V.Row.back F150 hg149l hg149u) | exact (V.Row.back F150 hg149l hg149u).mono (fun _ h => h) (by omega) (by omega)), rfl, rfl, rfl, rfl, rfl, rfl⟩
          ·
            try simp only [decide_eq_true_eq, decide_eq_false_iff_not, Bool.or_eq_true, Bool.and_eq_true, Bool.or_eq_false_iff, Bool.and_eq_false_iff, Bool.not_eq_true', Bool.not_eq_false', Int.not_lt, Int.not_le, Decidable.not_not, V.u8eq, V.S_inj, V.S_lit, V.S_lit2] at h27
            refine V.exit ?_
            refine V.tX ?_
            refine V.tX ?_
            refine V.bE ?_
            refine V.tN ?_
            refine V.seq ?_
            refine V.region ?_
            refine V.run T_ok 1 rfl ?_
            refine V.mkMark (xs := ([109, 111, 114, 101] : List UInt8)) T_ok zero5 rfl rfl sz5 rfl rfl rfl rfl rfl rfl Try.underlying5 rfl rfl rfl rfl rfl rfl ?_
            rintro k155 w158 s160 s161 G159 F157
            have z162 := V.Fr.size G159
            try replace F_b := F_b.gr G159
            try replace F_c := F_c.gr G159
            try replace F49 := F49.gr G159
            try replace F56 := F56.gr G159
            try replace F63 := F63.gr G159
            try replace F86 := F86.gr G159
            try replace F122 := F122.gr G159
            try replace F140 := F140.gr G159
            replace HG := HG.grow G159
            clear G159
            refine V.call (dappend_spec F49 F157 (by first | omega | (simp only [List.length_take, List.length_drop, List.length_append, List.length_cons, List.length_nil, List.length_replicate, List.length_set, V.length_data, V.S_size]; omega))) rfl rfl rfl ?_
            rintro _ w164 ⟨rfl, F163, G165⟩
            have z166 := V.Fr.size G165
            first | replace F_b := F_b.mv1 G165 (by first | exact (fun h => by have := h.1; have := h.2; omega) | exact (fun h => by omega) | exact (fun h => by have := h.1.1; have := h.1.2; omega) | exact (fun h => h.2 rfl) | exact (fun h => hnk h.1) | first | omega | exact fun h => h | exact ⟨by omega, fun h => h⟩ | (intro h; first | (have := hD _ h; omega)) | (refine ⟨by omega, ?_⟩; intro h; first | (have := hD _ h; omega))) | clear F_b | skip
            first | replace F_c := F_c.mv1 G165 (by first | exact (fun h => by have := h.1; have := h.2; omega) | exact (fun h => by omega) | exact (fun h => by have := h.1.1; have := h.1.2; omega) | exact (fun h => h.2 rfl) | exact (fun h => hnk h.1) | first | omega | exact fun h => h | exact ⟨by omega, fun h => h⟩ | (intro h; first | (have := hD _ h; omega)) | (refine ⟨by omega, ?_⟩; intro h; first | (have := hD _ h; omega))) | clear F_c | skip
            first | replace F49 := F49.mv1 G165 (by first | exact ⟨by omega, by assumption⟩ | exact ⟨by omega, fun h => absurd h.1 (by assumption)⟩ | exact ⟨by omega, fun h => absurd h.1.1 (by assumption)⟩ | exact ⟨by omega, fun h => by first | (have h2 := h.1; have h3 := h.2; omega) | (have h2 := h; dsimp only at h2; omega)⟩ | first | omega | exact fun h => h | exact ⟨by omega, fun h => h⟩ | (intro h; first | (have := hD _ h; omega)) | (refine ⟨by omega, ?_⟩; intro h; first | (have := hD _ h; omega))) | clear F49 | skip
            first | replace F56 := F56.mv1 G165 (by first | exact ⟨by omega, by assumption⟩ | exact ⟨by omega, fun h => absurd h.1 (by assumption)⟩ | exact ⟨by omega, fun h => absurd h.1.1 (by assumption)⟩ | exact ⟨by omega, fun h => by first | (have h2 := h.1; have h3 := h.2; omega) | (have h2 := h; dsimp only at h2; omega)⟩ | first | omega | exact fun h => h | exact ⟨by omega, fun h => h⟩ | (intro h; first | (have := hD _ h; omega)) | (refine ⟨by omega, ?_⟩; intro h; first | (have := hD _ h; omega))) | clear F56 | skip
            first | replace F63 := F63.mv1 G165 (by first | exact ⟨fun h => h, fun h => by have := h.1; have := h.2; omega⟩ | omega) | clear F63 | skip
            first | replace F86 := F86.mv1 G165 (by first | exact ⟨fun h => h, fun h => by have := h.1; have := h.2; omega⟩ | omega) | clear F86 | skip
            first | replace F122 := F122.mv1 G165 (by first | exact ⟨fun h => h, fun h => by have := h.1; have := h.2; omega⟩ | omega) | clear F122 | skip
            first | replace F140 := F140.mv1 G165 (by first | exact ⟨fun h => h, fun h => by have := h.1; have := h.2; omega⟩ | omega) | clear F140 | skip
            first | replace F157 := F157.mv1 G165 (by first | exact (fun h => by have := h.1; have := h.2; omega) | exact (fun h => by omega) | exact (fun h => by have := h.1.1; have := h.1.2; omega) | exact (fun h => h.2 rfl) | exact (fun h => hnk h.1) | first | omega | exact fun h => h | exact ⟨by omega, fun h => h⟩ | (intro h; first | (have := hD _ h; omega)) | (refine ⟨by omega, ?_⟩; intro h; first | (have := hD _ h; omega))) | clear F157 | skip
            replace HG := HG.new1 G165 (by first | (refine Or.inr ?_; omega) | (refine Or.inl ?_; simp; done))
            clear G165
            refine V.nil ?_
            refine V.tN ?_
            refine V.seq ?_
            refine V.drawGT 32 (V.sel [(0, (fun v wz => v = .bool true)), (3, (fun v wz => ∃ (ra5 : Option Addr) (rc5 : Nat), v = .slice ra5 (dAppend (⟨b, c, b, c⟩ : DiskV) ([109, 111, 114, 101] : List UInt8)).nf.length rc5 ∧ V.Row V.Cod.byte 5 wz V.None' w164.heap.size wz.heap.size ra5 rc5 (dAppend (⟨b, c, b, c⟩ : DiskV) ([109, 111, 114, 101] : List UInt8)).nf)), (12, (fun v wz => ∃ (ra6 : Option Addr) (rc6 : Nat), v = .slice ra6 (dAppend (⟨b, c, b, c⟩ : DiskV) ([109, 111, 114, 101] : List UInt8)).nc.length rc6 ∧ V.Row V.Cod.byte 5 wz V.None' w164.heap.size wz.heap.size ra6 rc6 (dAppend (⟨b, c, b, c⟩ : DiskV) ([109, 111, 114, 101] : List UInt8)).nc)), (20, (fun v wz => ∃ (ra5 : Option Addr) (rc5 : Nat), v = .slice ra5 b.length rc5 ∧ V.Row V.Cod.byte 5 wz V.None' w164.heap.size wz.heap.size ra5 rc5 b)), (28, (fun v wz => ∃ (ra6 : Option Addr) (rc6 : Nat), v = .slice ra6 c.length rc6 ∧ V.Row V.Cod.byte 5 wz V.None' w164.heap.size wz.heap.size ra6 rc6 c))]) mixed (by kernel_rfl) (V.mono_cons V.eqV_mono (V.mono_cons (by rintro v wz wz' g ⟨ra5, rc5, rfl, rF5⟩; exact ⟨ra5, rc5, rfl, (by first | exact (rF5.gr g).mono (V.In.sub (Nat.le_refl _) g.size) | exact rF5.gr g | exact (rF5.gr g).mono (fun _ h => h) (Nat.le_refl _) g.size | exact (rF5.gr g).mono (fun k h => ⟨h.1, Nat.lt_of_lt_of_le h.2 g.size⟩))⟩) (V.mono_cons (by rintro v wz wz' g ⟨ra6, rc6, rfl, rF6⟩; exact ⟨ra6, rc6, rfl, (by first | exact (rF6.gr g).mono (V.In.sub (Nat.le_refl _) g.size) | exact rF6.gr g | exact (rF6.gr g).mono (fun _ h => h) (Nat.le_refl _) g.size | exact (rF6.gr g).mono (fun k h => ⟨h.1, Nat.lt_of_lt_of_le h.2 g.size⟩))⟩) (V.mono_cons (by rintro v wz wz' g ⟨ra5, rc5, rfl, rF5⟩; exact ⟨ra5, rc5, rfl, (by first | exact (rF5.gr g).mono (V.In.sub (Nat.le_refl _) g.size) | exact rF5.gr g | exact (rF5.gr g).mono (fun _ h => h) (Nat.le_refl _) g.size | exact (rF5.gr g).mono (fun k h => ⟨h.1, Nat.lt_of_lt_of_le h.2 g.size⟩))⟩) (V.mono_cons (by rintro v wz wz' g ⟨ra6, rc6, rfl, rF6⟩; exact ⟨ra6, rc6, rfl, (by first | exact (rF6.gr g).mono (V.In.sub (Nat.le_refl _) g.size) | exact rF6.gr g | exact (rF6.gr g).mono (fun _ h => h) (Nat.le_refl _) g.size | exact (rF6.gr g).mono (fun k h => ⟨h.1, Nat.lt_of_lt_of_le h.2 g.size⟩))⟩) V.mono_nil))))) ?_
            refine V.gcall (fun w' h => alive_spec.mono (by rintro v w'' ⟨rfl, G⟩; exact ⟨rfl, G⟩)) rfl rfl rfl rfl ?_
            rintro _ w167 - - rfl
            refine V.grun T_ok 2 rfl (V.sel_none rfl) ?_
            refine V.gyes rfl rfl rfl ?_
            refine V.gcall (fun w' h => (dfile_spec (F163.gr h.1)).mono (by rintro v w'' ⟨ra5, rc5, rfl, rF5, G⟩; exact ⟨⟨ra5, rc5, rfl, (by first | exact rF5.mono (V.In.mono_l h.1.size) | exact rF5 | exact rF5.mono (fun _ h => h) h.1.size (Nat.le_refl _))⟩, G⟩)) rfl rfl rfl rfl ?_
            rintro _ w171 - - ⟨a168, c169, rfl, -⟩
            refine V.gyes rfl rfl rfl ?_
            refine V.gtoStr (fun w' h => by obtain ⟨_, _, he, F0⟩ := (V.Hist.here (h.get (i := 3) rfl)); cases he; exact F0.sl.mono (fun _ _ => trivial)) Try.underlying22 Try.underlying5 Try.underlying9 rfl rfl rfl rfl rfl ?_
            refine V.grun T_ok 1 rfl (V.sel_none rfl) ?_
            refine V.gyes rfl rfl rfl ?_
            refine V.gtoStr (fun w' h => F_b.gr h.1) Try.underlying22 Try.underlying5 Try.underlying9 rfl rfl rfl rfl rfl ?_
            refine V.gyes rfl rfl rfl ?_
            refine V.gscat rfl rfl rfl rfl rfl (by first | first | omega | (simp only [List.length_take, List.length_drop, List.length_append, List.length_cons, List.length_nil, List.length_replicate, List.length_set, V.length_data, V.S_size]; omega) | (simp; omega) | (simp only [V.S_size]; simp only [ByteArray.size, List.size_toArray, List.length_cons, List.length_nil]; omega)) ?_
            refine V.grun T_ok 3 rfl (V.sel_none rfl) ?_
            refine V.gsplitT (j := 10) (t := 107) rfl rfl (by (apply decide_eq_true; first | rfl | (rw [dAppend_ok (by simp only [List.length_cons, List.length_nil]; omega)]; first | done | exact (V.S_append b _).symm))) ?_
            refine V.grun T_ok 1 rfl (V.sel_none rfl) ?_
            refine V.gyes rfl rfl rfl ?_
            refine V.gcall (fun w' h => (dcell_spec (F163.gr h.1)).mono (by rintro v w'' ⟨ra6, rc6, rfl, rF6, G⟩; exact ⟨⟨ra6, rc6, rfl, (by first | exact rF6.mono (V.In.mono_l h.1.size) | exact rF6 | exact rF6.mono (fun _ h => h) h.1.size (Nat.le_refl _))⟩, G⟩)) rfl rfl rfl rfl ?_
            rintro _ w175 - - ⟨a172, c173, rfl, -⟩
            refine V.gyes rfl rfl rfl ?_
            refine V.gtoStr (fun w' h => by obtain ⟨_, _, he, F0⟩ := (V.Hist.here (h.get (i := 12) rfl)); cases he; exact F0.sl.mono (fun _ _ => trivial)) Try.underlying22 Try.underlying5 Try.underlying9 rfl rfl rfl rfl rfl ?_
            refine V.grun T_ok 1 rfl (V.sel_none rfl) ?_
            refine V.gyes rfl rfl rfl ?_
            refine V.gtoStr (fun w' h => F_c.gr h.1) Try.underlying22 Try.underlying5 Try.underlying9 rfl rfl rfl rfl rfl ?_
            refine V.grun T_ok 3 rfl (V.sel_none rfl) ?_
            refine V.gsplitT (j := 18) (t := 115) rfl rfl (by (apply decide_eq_true; first | rfl | (rw [dAppend_ok (by simp only [List.length_cons, List.length_nil]; omega)]; first | done | exact (V.S_append b _).symm))) ?_
            refine V.grun T_ok 1 rfl (V.sel_none rfl) ?_
            refine V.gyes rfl rfl rfl ?_
            refine V.gcall (fun w' h => (dfile_spec (F56.gr h.1)).mono (by rintro v w'' ⟨ra5, rc5, rfl, rF5, G⟩; exact ⟨⟨ra5, rc5, rfl, (by first | exact rF5.mono (V.In.mono_l h.1.size) | exact rF5 | exact rF5.mono (fun _ h => h) h.1.size (Nat.le_refl _))⟩, G⟩)) rfl rfl rfl rfl ?_
            rintro _ w179 - - ⟨a176, c177, rfl, -⟩
            refine V.gyes rfl rfl rfl ?_
            refine V.gtoStr (fun w' h => by obtain ⟨_, _, he, F0⟩ := (V.Hist.here (h.get (i := 20) rfl)); cases he; exact F0.sl.mono (fun _ _ => trivial)) Try.underlying22 Try.underlying5 Try.underlying9 rfl rfl rfl rfl rfl ?_
            refine V.grun T_ok 1 rfl (V.sel_none rfl) ?_
            refine V.gyes rfl rfl rfl ?_
            refine V.gtoStr (fun w' h => F_b.gr h.1) Try.underlying22 Try.underlying5 Try.underlying9 rfl rfl rfl rfl rfl ?_
            refine V.grun T_ok 3 rfl (V.sel_none rfl) ?_
            refine V.gsplitT (j := 26) (t := 123) rfl rfl (by (apply decide_eq_true; first | rfl | (rw [dAppend_ok (by simp only [List.length_cons, List.length_nil]; omega)]; first | done | exact (V.S_append b _).symm))) ?_
            refine V.grun T_ok 1 rfl (V.sel_none rfl) ?_
            refine V.gyes rfl rfl rfl ?_
            refine V.gcall (fun w' h => (dcell_spec (F56.gr h.1)).mono (by rintro v w'' ⟨ra6, rc6, rfl, rF6, G⟩; exact ⟨⟨ra6, rc6, rfl, (by first | exact rF6.mono (V.In.mono_l h.1.size) | exact rF6 | exact rF6.mono (fun _ h => h) h.1.size (Nat.le_refl _))⟩, G⟩)) rfl rfl rfl rfl ?_
            rintro _ w183 - - ⟨a180, c181, rfl, -⟩
            refine V.gyes rfl rfl rfl ?_
            refine V.gtoStr (fun w' h => by obtain ⟨_, _, he, F0⟩ := (V.Hist.here (h.get (i := 28) rfl)); cases he; exact F0.sl.mono (fun _ _ => trivial)) Try.underlying22 Try.underlying5 Try.underlying9 rfl rfl rfl rfl rfl ?_
            refine V.grun T_ok 1 rfl (V.sel_none rfl) ?_
            refine V.gyes rfl rfl rfl ?_
            refine V.gtoStr (fun w' h => F_c.gr h.1) Try.underlying22 Try.underlying5 Try.underlying9 rfl rfl rfl rfl rfl ?_
            refine V.gnil ?_
            rintro w184 G185 hH186
            have z187 := V.Fr.size G185
            try replace F_b := F_b.gr G185
            try replace F_c := F_c.gr G185
            try replace F56 := F56.gr G185
            try replace F63 := F63.gr G185
            try replace F86 := F86.gr G185
            try replace F122 := F122.gr G185
            try replace F140 := F140.gr G185
            try replace F157 := F157.gr G185
            try replace F163 := F163.gr G185
            replace HG := HG.grow G185
            clear G185
            have F170 : V.Row V.Cod.byte 5 w184 V.None' w164.heap.size w184.heap.size a168 c169 (dAppend (⟨b, c, b, c⟩ : DiskV) ([109, 111, 114, 101] : List UInt8)).nf := by
              obtain ⟨_, _, he, F0⟩ := (V.Hist.here (V.Hist.old (V.Hist.old (V.Hist.old (hH186 3)))))
              cases he
              exact F0
            have F174 : V.Row V.Cod.byte 5 w184 V.None' w164.heap.size w184.heap.size a172 c173 (dAppend (⟨b, c, b, c⟩ : DiskV) ([109, 111, 114, 101] : List UInt8)).nc := by
              obtain ⟨_, _, he, F0⟩ := (V.Hist.here (V.Hist.old (V.Hist.old (hH186 12))))
              cases he
              exact F0
            have F178 : V.Row V.Cod.byte 5 w184 V.None' w164.heap.size w184.heap.size a176 c177 b := by
              obtain ⟨_, _, he, F0⟩ := (V.Hist.here (V.Hist.old (hH186 20)))
              cases he
              exact F0
            have F182 : V.Row V.Cod.byte 5 w184 V.None' w164.heap.size w184.heap.size a180 c181 c := by
              obtain ⟨_, _, he, F0⟩ := (V.Hist.here (hH186 28))
              cases he
              exact F0
            clear hH186
            refine V.run T_ok 3 rfl ?_
            refine V.nil ?_
            refine V.tN ?_
            refine V.ret ?_
            refine V.done rfl ?_
            exact ⟨congrArg Value.bool (decide_eq_true rfl), HG⟩

set_option maxHeartbeats 4000000 in
set_option maxRecDepth 10000 in
theorem diskCells_walk {w : World}  {D_safe : Nat → Prop} {c_safe : Nat} {a_safe : Option Addr} {safe : List UInt8} (F_safe : Sl V.Cod.byte w D_safe a_safe c_safe safe) {D_l : Nat → Prop} {c_l : Nat} {a_l : Option Addr} {l : List (List UInt8)} (F_l : Sl V.Cod.byte.sl w D_l a_l c_l l) (hD_l : ∀ k, D_l k → k < w.heap.size) {D_a : Nat → Prop} {c_a : Nat} {a_a : Option Addr} {ab : List UInt8} {kd n : Int} {torn cell : Bool} (FB : Bytes w D_a a_a c_a ab) (hD_a : ∀ k, D_a k → k < w.heap.size)  :
    Meets Try.prog 5 [.slice a_safe safe.length c_safe, .slice a_l l.length c_l, .agg #[.int .i64 kd, .int .i64 n, .slice a_a ab.length c_a, .bool torn, .bool cell]] w fun r w' => r = .bool true ∧ Gr w w' := by
  replace F_safe := F_safe.flb
  have HG := V.Fr.refl [] w
  refine V.enter (n := 115) Try.func5 rfl rfl (by decide) rfl ?_
  refine V.seq ?_
  refine V.region ?_
  refine V.box rfl rfl rfl rfl ?_
  rintro k1 w3 s5 s6 G4 Fk2
  have z7 := V.Fr.size G4
  try replace F_safe := F_safe.gr G4
  try replace F_l := F_l.gr G4
  try replace FB := FB.gr G4
  replace HG := HG.grow G4
  clear G4
  try simp only [V.cellsL, V.spliceL] at Fk2
  refine V.run T_ok 1 rfl ?_
  refine V.nil ?_
  refine V.tN ?_
  refine V.seq ?_
  refine V.region ?_
  refine V.call (dnew_spec) rfl rfl rfl ?_
  rintro _ w11 ⟨k8, rfl, F9, ⟨h10l, h10u⟩, G12⟩
  have z13 := V.Fr.size G12
  try replace F_safe := F_safe.gr G12
  try replace F_l := F_l.gr G12
  try replace FB := FB.gr G12
  try replace Fk2 := Fk2.gr G12
  replace HG := HG.grow G12
  clear G12
  refine V.run T_ok 1 rfl ?_
  refine V.nil ?_
  refine V.tN ?_
  refine V.seq ?_
  refine V.seq ?_
  refine V.region ?_
  refine V.call (alive_spec) rfl rfl rfl ?_
  rintro _ w14 ⟨rfl, G15⟩
  have z16 := V.Fr.size G15
  try replace F_safe := F_safe.gr G15
  try replace F_l := F_l.gr G15
  try replace FB := FB.gr G15
  try replace Fk2 := Fk2.gr G15
  try replace F9 := F9.gr G15
  replace HG := HG.grow G15
  clear G15
  refine V.run T_ok 10 rfl ?_
  refine V.nil ?_
  refine V.tN ?_
  refine V.condT rfl (fun h2 => ?_) (fun h2 => ?_)
  ·
    try simp only [decide_eq_true_eq, decide_eq_false_iff_not, Bool.or_eq_true, Bool.and_eq_true, Bool.or_eq_false_iff, Bool.and_eq_false_iff, Bool.not_eq_true', Bool.not_eq_false', Int.not_lt, Int.not_le, Decidable.not_not, V.u8eq, V.S_inj, V.S_lit, V.S_lit2] at h2
    refine V.seq ?_
    refine V.region ?_
    refine V.run T_ok 3 rfl ?_
    refine V.nil ?_
    refine V.tN ?_
    refine V.ret ?_
    refine V.tR ?_
    refine V.done rfl ?_
    exact ⟨(by first | rfl | simp only [List.length_set]), HG⟩
  ·
    try simp only [decide_eq_true_eq, decide_eq_false_iff_not, Bool.or_eq_true, Bool.and_eq_true, Bool.or_eq_false_iff, Bool.and_eq_false_iff, Bool.not_eq_true', Bool.not_eq_false', Int.not_lt, Int.not_le, Decidable.not_not, V.u8eq, V.S_inj, V.S_lit, V.S_lit2] at h2
    refine V.skip ?_
    refine V.tN ?_
    refine V.seq ?_
    refine V.region ?_
    refine V.run T_ok 2 rfl ?_
    have F17 := Dsk.nil (D := (fun j => w14.heap.size ≤ j)) F9 (by first | (intro h; exact h rfl) | (intro h; omega)) (by intro j hj; first | omega | exact ⟨by omega, by omega⟩)
    clear F9
    refine V.call (dset_spec F17 F_safe (by first | omega | (simp only [List.length_take, List.length_drop, List.length_append, List.length_cons, List.length_nil, List.length_replicate, List.length_set, V.length_data, V.S_size]; omega))) rfl rfl rfl ?_
    rintro _ w19 ⟨rfl, F18, G20⟩
    have z21 := V.Fr.size G20
    first | replace F_safe := F_safe.mv1 G20 (by first | exact (fun h => by have := h.1; have := h.2; omega) | exact (fun h => by omega) | exact (fun h => by have := h.1.1; have := h.1.2; omega) | exact (fun h => h.2 rfl) | exact (fun h => hnk h.1) | first | omega | exact fun h => h | exact ⟨by omega, fun h => h⟩ | (intro h; first | (have := hD_l _ h; omega)) | (refine ⟨by omega, ?_⟩; intro h; first | (have := hD_l _ h; omega))) | clear F_safe | skip
    first | replace F_l := F_l.mv1 G20 (by first | exact (fun h => by have := hD_l _ h; omega) | omega) | clear F_l | skip
    first | replace FB := FB.mv1 G20 (by first | exact (fun h => by have := hD_a _ h; omega) | omega) | clear FB | skip
    first | replace Fk2 := Fk2.mv1 G20 (by omega) | clear Fk2 | skip
    first | replace F17 := F17.mv1 G20 (by first | exact ⟨by omega, by assumption⟩ | exact ⟨by omega, fun h => absurd h.1 (by assumption)⟩ | exact ⟨by omega, fun h => absurd h.1.1 (by assumption)⟩ | exact ⟨by omega, fun h => by first | (have h2 := h.1; have h3 := h.2; omega) | (have h2 := h; dsimp only at h2; omega)⟩ | first | omega | exact fun h => h | exact ⟨by omega, fun h => h⟩ | (intro h; first | (have := hD_l _ h; omega)) | (refine ⟨by omega, ?_⟩; intro h; first | (have := hD_l _ h; omega))) | clear F17 | skip
    replace HG := HG.new1 G20 (by first | (refine Or.inr ?_; omega) | (refine Or.inl ?_; simp; done))
    clear G20
    refine V.nil ?_
    refine V.tN ?_
    refine V.seq ?_
    refine V.region ?_
    refine V.run T_ok 1 rfl ?_
    refine V.call (dsync_spec F18) rfl rfl rfl ?_
    rintro _ w23 ⟨rfl, F22, G24⟩
    have z25 := V.Fr.size G24
    first | replace F_safe := F_safe.mv1 G24 (by first | exact (fun h => by have := h.1; have := h.2; omega) | exact (fun h => by omega) | exact (fun h => by have := h.1.1; have := h.1.2; omega) | exact (fun h => h.2 rfl) | exact (fun h => hnk h.1) | first | omega | exact fun h => h | exact ⟨by omega, fun h => h⟩ | (intro h; first | (have := hD_l _ h; omega)) | (refine ⟨by omega, ?_⟩; intro h; first | (have := hD_l _ h; omega))) | clear F_safe | skip
    first | replace F_l := F_l.mv1 G24 (by first | exact (fun h => by have := hD_l _ h; omega) | omega) | clear F_l | skip
    first | replace FB := FB.mv1 G24 (by first | exact (fun h => by have := hD_a _ h; omega) | omega) | clear FB | skip
    first | replace Fk2 := Fk2.mv1 G24 (by omega) | clear Fk2 | skip
    first | replace F18 := F18.mv1 G24 (by first | exact ⟨by omega, by assumption⟩ | exact ⟨by omega, fun h => absurd h.1 (by assumption)⟩ | exact ⟨by omega, fun h => absurd h.1.1 (by assumption)⟩ | exact ⟨by omega, fun h => by first | (have h2 := h.1; have h3 := h.2; omega) | (have h2 := h; dsimp only at h2; omega)⟩ | first | omega | exact fun h => h | exact ⟨by omega, fun h => h⟩ | (intro h; first | (have := hD_l _ h; omega)) | (refine ⟨by omega, ?_⟩; intro h; first | (have := hD_l _ h; omega))) | clear F18 | skip
    replace HG := HG.new1 G24 (by first | (refine Or.inr ?_; omega) | (refine Or.inl ?_; simp; done))
    clear G24
    refine V.nil ?_
    refine V.tN ?_
    refine V.seq ?_
    refine V.region ?_
    refine V.run T_ok 1 rfl ?_
    refine V.toStr F_safe Try.underlying22 Try.underlying5 Try.underlying9 rfl rfl rfl rfl ?_
    refine V.run T_ok 1 rfl ?_
    refine V.nil ?_
    refine V.tN ?_
    refine V.seq ?_
    refine V.seq ?_
    refine V.region ?_
    refine V.run T_ok 1 rfl ?_
    refine V.nil ?_
    refine V.tN ?_
    refine V.block ?_
    refine V.loopM (fun m e v28 => Fr [] w v28 ∧ w23.heap.size ≤ v28.heap.size ∧ Sl V.Cod.byte v28 (fun k => D_safe k ∧ k < w.heap.size) a_safe c_safe safe ∧ Sl V.Cod.byte.sl v28 D_l a_l c_l l ∧ Sl V.Cod.byte v28 D_a a_a c_a ab ∧ Cells v28 k1 [.int .i64 kd, .int .i64 n, .slice a_a ab.length c_a, .bool torn, .bool cell] 25 ∧ ∃ (d : DiskV) (last : List UInt8) (i : Nat) , m = l.length - i ∧ d.sc = safe ∧ d.nc = last ∧ i ≤ l.length ∧ i ≤ 60 ∧ Dsk v28 k8 (fun j => w14.heap.size ≤ j) (d) ∧ e 0 = .slice a_safe safe.length c_safe ∧ e 1 = .slice a_l l.length c_l ∧ e 5 = .pointer (some ⟨k1, 0, none⟩) ∧ e 7 = .pointer (some ⟨k8, 0, none⟩) ∧ e 8 = .string (V.S last) ∧ e 9 = .int .i64 (i : Int)) ?_ ?_
    ·
      exact ⟨_, HG, (by omega), F_safe, F_l, FB, Fk2, (dSync (dSet (⟨[], [], [], []⟩ : DiskV) safe)), (safe), (0), rfl, (by rw [dSet_ok (by omega)]; rfl), (by rw [dSet_ok (by omega)]; rfl), (by omega), (by omega), (by first | exact F22 | exact F22.mono (fun _ h => h.1) (by intro h; omega)), rfl, rfl, rfl, rfl, rfl, rfl⟩
    try clear F22
    clear HG F_safe F_l FB Fk2
    rintro _ e v28 ⟨HG, z29, F_safe, F_l, FB, Fk2, d, last, i, rfl, hsc, hnc, hil, hi60, F26, he0_0, he0_1, he0_5, he0_7, he0_8, he0_9⟩
    refine V.knownC (t := 0) he0_0 ?_
    refine V.knownC (t := 1) he0_1 ?_
    refine V.knownC (t := 5) he0_5 ?_
    refine V.knownC (t := 7) he0_7 ?_
    refine V.knownC (t := 8) he0_8 ?_
    refine V.knownC (t := 9) he0_9 ?_
    refine V.seq ?_
    refine V.seq ?_
    refine V.region ?_
    refine V.run T_ok 5 rfl ?_
    refine V.andG T_ok 2 4 37 rfl rfl rfl rfl rfl rfl rfl rfl ?_
    refine V.nil ?_
    refine V.tN ?_
    refine V.condT rfl (fun h8 => ?_) (fun h8 => ?_)
    ·
      try simp only [decide_eq_true_eq, decide_eq_false_iff_not, Bool.or_eq_true, Bool.and_eq_true, Bool.or_eq_false_iff, Bool.and_eq_false_iff, Bool.not_eq_true', Bool.not_eq_false', Int.not_lt, Int.not_le, Decidable.not_not, V.u8eq, V.S_inj, V.S_lit, V.S_lit2] at h8
      refine V.skip ?_
      refine V.tN ?_
      refine V.seq ?_
      refine V.block ?_
      refine V.seq ?_
      refine V.region ?_
      refine V.run T_ok 2 rfl ?_
      refine V.elem T_ok F_l rfl rfl sz22 rfl rfl rfl rfl (by first | omega | (simp only [List.length_take, List.length_drop, List.length_append, List.length_cons, List.length_nil, List.length_replicate, List.length_set, V.length_data, V.S_size]; omega)) (by first | omega | (simp only [List.length_take, List.length_drop, List.length_append, List.length_cons, List.length_nil, List.length_replicate, List.length_set, V.length_data, V.S_size]; omega)) ?_
      rintro b30 o31 cs32 hx33 hb34 hR40 hA35
      obtain ⟨x36, hx36⟩ : ∃ z', l[((i : Int)).toNat] = z' := ⟨_, rfl⟩
      rw [hx36] at hR40
      obtain ⟨a37, c38, rfl, F39⟩ := hR40
      try simp only [Int.toNat_natCast] at hx36 hx33
      refine V.loadA T_ok (o0 := o31) (off := 0) hA35 rfl rfl rfl rfl rfl ?_
      refine V.run T_ok 2 rfl ?_
      refine V.nil ?_
      refine V.tN ?_
      refine V.condT rfl (fun h10 => ?_) (fun h10 => ?_)
      ·
        try simp only [decide_eq_true_eq, decide_eq_false_iff_not, Bool.or_eq_true, Bool.and_eq_true, Bool.or_eq_false_iff, Bool.and_eq_false_iff, Bool.not_eq_true', Bool.not_eq_false', Int.not_lt, Int.not_le, Decidable.not_not, V.u8eq, V.S_inj, V.S_lit, V.S_lit2] at h10
        refine V.seq ?_
        refine V.region ?_
        refine V.run T_ok 3 rfl ?_
        refine V.elem T_ok F_l rfl rfl sz22 rfl rfl rfl rfl (by first | omega | (simp only [List.length_take, List.length_drop, List.length_append, List.length_cons, List.length_nil, List.length_replicate, List.length_set, V.length_data, V.S_size]; omega)) (by first | omega | (simp only [List.length_take, List.length_drop, List.length_append, List.length_cons, List.length_nil, List.length_replicate, List.length_set, V.length_data, V.S_size]; omega)) ?_
        rintro b41 o42 cs43 hx44 hb45 hR51 hA46
        obtain ⟨x47, hx47⟩ : ∃ z', l[((i : Int)).toNat] = z' := ⟨_, rfl⟩
        rw [hx47] at hR51
        obtain ⟨a48, c49, rfl, F50⟩ := hR51
        try simp only [Int.toNat_natCast] at hx47 hx44
        obtain rfl : x36 = x47 := hx36.symm.trans hx47
        refine V.loadA T_ok (o0 := o42) (off := 0) hA46 rfl rfl rfl rfl rfl ?_
        refine V.call (dset_spec F26 F50 (by first | omega | (simp only [List.length_take, List.length_drop, List.length_append, List.length_cons, List.length_nil, List.length_replicate, List.length_set, V.length_data, V.S_size]; omega))) rfl rfl rfl ?_
        rintro _ w53 ⟨rfl, F52, G54⟩
        have z55 := V.Fr.size G54
        first | replace F_safe := F_safe.mv1 G54 (by first | exact (fun h => by have := h.1; have := h.2; omega) | exact (fun h => by omega) | exact (fun h => by have := h.1.1; have := h.1.2; omega) | exact (fun h => h.2 rfl) | exact (fun h => hnk h.1) | first | omega | exact fun h => h | exact ⟨by omega, fun h => h⟩ | (intro h; first | (have := hD_l _ h; omega)) | (refine ⟨by omega, ?_⟩; intro h; first | (have := hD_l _ h; omega))) | clear F_safe | skip
        first | replace F_l := F_l.mv1 G54 (by first | exact (fun h => by have := hD_l _ h; omega) | omega) | clear F_l | skip
        first | replace FB := FB.mv1 G54 (by first | exact (fun h => by have := hD_a _ h; omega) | omega) | clear FB | skip
        first | replace Fk2 := Fk2.mv1 G54 (by omega) | clear Fk2 | skip
        first | replace F26 := F26.mv1 G54 (by first | exact ⟨by omega, by assumption⟩ | exact ⟨by omega, fun h => absurd h.1 (by assumption)⟩ | exact ⟨by omega, fun h => absurd h.1.1 (by assumption)⟩ | exact ⟨by omega, fun h => by first | (have h2 := h.1; have h3 := h.2; omega) | (have h2 := h; dsimp only at h2; omega)⟩ | first | omega | exact fun h => h | exact ⟨by omega, fun h => h⟩ | (intro h; first | (have := hD_l _ h; omega)) | (refine ⟨by omega, ?_⟩; intro h; first | (have := hD_l _ h; omega))) | clear F26 | skip
        first | replace F39 := F39.mv1 G54 (by first | exact (fun h => by have := hD_l _ h; omega) | omega) | clear F39 | skip
        first | replace F50 := F50.mv1 G54 (by first | exact (fun h => by have := hD_l _ h; omega) | omega) | clear F50 | skip
        replace HG := HG.new1 G54 (by first | (refine Or.inr ?_; omega) | (refine Or.inl ?_; simp; done))
        clear G54
        refine V.nil ?_
        refine V.tN ?_
        refine V.seq ?_
        refine V.region ?_
        refine V.run T_ok 3 rfl ?_
        refine V.elem T_ok F_l rfl rfl sz22 rfl rfl rfl rfl (by first | omega | (simp only [List.length_take, List.length_drop, List.length_append, List.length_cons, List.length_nil, List.length_replicate, List.length_set, V.length_data, V.S_size]; omega)) (by first | omega | (simp only [List.length_take, List.length_drop, List.length_append, List.length_cons, List.length_nil, List.length_replicate, List.length_set, V.length_data, V.S_size]; omega)) ?_
        rintro b56 o57 cs58 hx59 hb60 hR66 hA61
        obtain ⟨x62, hx62⟩ : ∃ z', l[((i : Int)).toNat] = z' := ⟨_, rfl⟩
        rw [hx62] at hR66
        obtain ⟨a63, c64, rfl, F65⟩ := hR66
        try simp only [Int.toNat_natCast] at hx62 hx59
        obtain rfl : x36 = x62 := hx36.symm.trans hx62
        refine V.loadA T_ok (o0 := o57) (off := 0) hA61 rfl rfl rfl rfl rfl ?_
        refine V.call (dappend_spec F52 F65 (by first | omega | (simp only [List.length_take, List.length_drop, List.length_append, List.length_cons, List.length_nil, List.length_replicate, List.length_set, V.length_data, V.S_size]; omega))) rfl rfl rfl ?_
        rintro _ w68 ⟨rfl, F67, G69⟩
        have z70 := V.Fr.size G69
        first | replace F_safe := F_safe.mv1 G69 (by first | exact (fun h => by have := h.1; have := h.2; omega) | exact (fun h => by omega) | exact (fun h => by have := h.1.1; have := h.1.2; omega) | exact (fun h => h.2 rfl) | exact (fun h => hnk h.1) | first | omega | exact fun h => h | exact ⟨by omega, fun h => h⟩ | (intro h; first | (have := hD_l _ h; omega)) | (refine ⟨by omega, ?_⟩; intro h; first | (have := hD_l _ h; omega))) | clear F_safe | skip
        first | replace F_l := F_l.mv1 G69 (by first | exact (fun h => by have := hD_l _ h; omega) | omega) | clear F_l | skip
        first | replace FB := FB.mv1 G69 (by first | exact (fun h => by have := hD_a _ h; omega) | omega) | clear FB | skip
        first | replace Fk2 := Fk2.mv1 G69 (by omega) | clear Fk2 | skip
        first | replace F39 := F39.mv1 G69 (by first | exact (fun h => by have := hD_l _ h; omega) | omega) | clear F39 | skip
        first | replace F50 := F50.mv1 G69 (by first | exact (fun h => by have := hD_l _ h; omega) | omega) | clear F50 | skip
        first | replace F52 := F52.mv1 G69 (by first | exact ⟨by omega, by assumption⟩ | exact ⟨by omega, fun h => absurd h.1 (by assumption)⟩ | exact ⟨by omega, fun h => absurd h.1.1 (by assumption)⟩ | exact ⟨by omega, fun h => by first | (have h2 := h.1; have h3 := h.2; omega) | (have h2 := h; dsimp only at h2; omega)⟩ | first | omega | exact fun h => h | exact ⟨by omega, fun h => h⟩ | (intro h; first | (have := hD_l _ h; omega)) | (refine ⟨by omega, ?_⟩; intro h; first | (have := hD_l _ h; omega))) | clear F52 | skip
        first | replace F65 := F65.mv1 G69 (by first | exact (fun h => by have := hD_l _ h; omega) | omega) | clear F65 | skip
        replace HG := HG.new1 G69 (by first | (refine Or.inr ?_; omega) | (refine Or.inl ?_; simp; done))
        clear G69
        refine V.nil ?_
        refine V.tN ?_
        refine V.region ?_
        refine V.run T_ok 2 rfl ?_
        refine V.elem T_ok F_l rfl rfl sz22 rfl rfl rfl rfl (by first | omega | (simp only [List.length_take, List.length_drop, List.length_append, List.length_cons, List.length_nil, List.length_replicate, List.length_set, V.length_data, V.S_size]; omega)) (by first | omega | (simp only [List.length_take, List.length_drop, List.length_append, List.length_cons, List.length_nil, List.length_replicate, List.length_set, V.length_data, V.S_size]; omega)) ?_
        rintro b71 o72 cs73 hx74 hb75 hR81 hA76
        obtain ⟨x77, hx77⟩ : ∃ z', l[((i : Int)).toNat] = z' := ⟨_, rfl⟩
        rw [hx77] at hR81
        obtain ⟨a78, c79, rfl, F80⟩ := hR81
        try simp only [Int.toNat_natCast] at hx77 hx74
        obtain rfl : x36 = x77 := hx36.symm.trans hx77
        refine V.loadA T_ok (o0 := o72) (off := 0) hA76 rfl rfl rfl rfl rfl ?_
        refine V.toStr F80 Try.underlying22 Try.underlying5 Try.underlying9 rfl rfl rfl rfl ?_
        refine V.run T_ok 1 rfl ?_
        refine V.nil ?_
        refine V.bN ?_
        refine V.tN ?_
        refine V.region ?_
        refine V.run T_ok 1 rfl ?_
        refine V.addN rfl rfl rfl rfl rfl (by first | omega | (simp only [List.length_take, List.length_drop, List.length_append, List.length_cons, List.length_nil, List.length_replicate, List.length_set, V.length_data, V.S_size]; omega)) (by first | omega | (simp only [List.length_take, List.length_drop, List.length_append, List.length_cons, List.length_nil, List.length_replicate, List.length_set, V.length_data, V.S_size]; omega)) ?_
        refine V.run T_ok 1 rfl ?_
        refine V.nil ?_
        refine V.tN ?_
        exact ⟨_, (by omega), HG, (by omega), F_safe, F_l, FB, Fk2, (dAppend (dSet d x36) x36), (x36), (i + 1), rfl, (by first | exact hsc | (rw [dSet_ok (by omega)]; unfold dAppend; split <;> exact hsc)), (by first | exact hnc | (rw [dSet_ok (by omega)]; unfold dAppend; split <;> rfl)), (by omega), (by omega), (by first | exact F67 | exact F67.mono (fun _ h => h.1) (by intro h; omega)), rfl, rfl, rfl, rfl, rfl, rfl⟩
      ·
        try simp only [decide_eq_true_eq, decide_eq_false_iff_not, Bool.or_eq_true, Bool.and_eq_true, Bool.or_eq_false_iff, Bool.and_eq_false_iff, Bool.not_eq_true', Bool.not_eq_false', Int.not_lt, Int.not_le, Decidable.not_not, V.u8eq, V.S_inj, V.S_lit, V.S_lit2] at h10
        refine V.skip ?_
        refine V.bN ?_
        refine V.tN ?_
        refine V.region ?_
        refine V.run T_ok 1 rfl ?_
        refine V.addN rfl rfl rfl rfl rfl (by first | omega | (simp only [List.length_take, List.length_drop, List.length_append, List.length_cons, List.length_nil, List.length_replicate, List.length_set, V.length_data, V.S_size]; omega)) (by first | omega | (simp only [List.length_take, List.length_drop, List.length_append, List.length_cons, List.length_nil, List.length_replicate, List.length_set, V.length_data, V.S_size]; omega)) ?_
        refine V.run T_ok 1 rfl ?_
        refine V.nil ?_
        refine V.tN ?_
        exact ⟨_, (by omega), HG, (by omega), F_safe, F_l, FB, Fk2, (d), (last), (i + 1), rfl, (by first | exact hsc | (rw [dSet_ok (by omega)]; unfold dAppend; split <;> exact hsc)), (by first | exact hnc | (rw [dSet_ok (by omega)]; unfold dAppend; split <;> rfl)), (by omega), (by omega), (by first | exact F26 | exact F26.mono (fun _ h => h.1) (by intro h; omega)), rfl, rfl, rfl, rfl, rfl, rfl⟩
    ·
      try simp only [decide_eq_true_eq, decide_eq_false_iff_not, Bool.or_eq_true, Bool.and_eq_true, Bool.or_eq_false_iff, Bool.and_eq_false_iff, Bool.not_eq_true', Bool.not_eq_false', Int.not_lt, Int.not_le, Decidable.not_not, V.u8eq, V.S_inj, V.S_lit, V.S_lit2] at h8
      refine V.exit ?_
      refine V.tX ?_
      refine V.tX ?_
      refine V.bE ?_
      refine V.tN ?_
      refine V.seq ?_
      refine V.region ?_
      refine V.run T_ok 2 rfl ?_
      refine V.loadO T_ok Fk2 rfl rfl rfl rfl rfl ?_
      refine V.run T_ok 1 rfl ?_
      refine V.loadO T_ok Fk2 rfl rfl rfl rfl rfl ?_
      refine V.call (dcrash_spec (keep := n) (torn := torn) (cell := false) F26) rfl rfl rfl ?_
      rintro _ w85 ⟨k82, rfl, ⟨h83l, h83u⟩, F84, G86⟩
      have z87 := V.Fr.size G86
      try replace F_safe := F_safe.gr G86
      try replace F_l := F_l.gr G86
      try replace FB := FB.gr G86
      try replace Fk2 := Fk2.gr G86
      try replace F26 := F26.gr G86
      replace HG := HG.grow G86
      clear G86
      refine V.run T_ok 1 rfl ?_
      refine V.nil ?_
      refine V.tN ?_
      refine V.seq ?_
      refine V.region ?_
      refine V.run T_ok 2 rfl ?_
      refine V.loadO T_ok Fk2 rfl rfl rfl rfl rfl ?_
      refine V.run T_ok 1 rfl ?_
      refine V.loadO T_ok Fk2 rfl rfl rfl rfl rfl ?_
      refine V.call (dcrash_spec (keep := n) (torn := torn) (cell := true) F26) rfl rfl rfl ?_
      rintro _ w91 ⟨k88, rfl, ⟨h89l, h89u⟩, F90, G92⟩
      have z93 := V.Fr.size G92
      try replace F_safe := F_safe.gr G92
      try replace F_l := F_l.gr G92
      try replace FB := FB.gr G92
      try replace Fk2 := Fk2.gr G92
      try replace F26 := F26.gr G92
      try replace F84 := F84.gr G92
      replace HG := HG.grow G92
      clear G92
      refine V.run T_ok 1 rfl ?_
      refine V.nil ?_
      refine V.tN ?_
      refine V.seq ?_
      refine V.drawGT 35 (V.sel [(8, (fun v wz => ∃ (ra6 : Option Addr) (rc6 : Nat), v = .slice ra6 (dCrash d n torn false).nc.length rc6 ∧ V.Row V.Cod.byte 5 wz V.None' w91.heap.size wz.heap.size ra6 rc6 (dCrash d n torn false).nc)), (16, (fun v wz => ∃ (ra6 : Option Addr) (rc6 : Nat), v = .slice ra6 (dCrash d n torn true).nc.length rc6 ∧ V.Row V.Cod.byte 5 wz V.None' w91.heap.size wz.heap.size ra6 rc6 (dCrash d n torn true).nc)), (23, (fun v wz => ∃ (ra6 : Option Addr) (rc6 : Nat), v = .slice ra6 d.nc.length rc6 ∧ V.Row V.Cod.byte 5 wz V.None' w91.heap.size wz.heap.size ra6 rc6 d.nc)), (30, (fun v wz => ∃ (ra5 : Option Addr) (rc5 : Nat), v = .slice ra5 (dCrash d n torn false).nf.length rc5 ∧ V.Row V.Cod.byte 5 wz V.None' w91.heap.size wz.heap.size ra5 rc5 (dCrash d n torn false).nf)), (33, (fun v wz => ∃ (ra5 : Option Addr) (rc5 : Nat), v = .slice ra5 (dCrash d n torn true).nf.length rc5 ∧ V.Row V.Cod.byte 5 wz V.None' w91.heap.size wz.heap.size ra5 rc5 (dCrash d n torn true).nf))]) mixed (by kernel_rfl) (V.mono_cons (by rintro v wz wz' g ⟨ra6, rc6, rfl, rF6⟩; exact ⟨ra6, rc6, rfl, (by first | exact (rF6.gr g).mono (V.In.sub (Nat.le_refl _) g.size) | exact rF6.gr g | exact (rF6.gr g).mono (fun _ h => h) (Nat.le_refl _) g.size | exact (rF6.gr g).mono (fun k h => ⟨h.1, Nat.lt_of_lt_of_le h.2 g.size⟩))⟩) (V.mono_cons (by rintro v wz wz' g ⟨ra6, rc6, rfl, rF6⟩; exact ⟨ra6, rc6, rfl, (by first | exact (rF6.gr g).mono (V.In.sub (Nat.le_refl _) g.size) | exact rF6.gr g | exact (rF6.gr g).mono (fun _ h => h) (Nat.le_refl _) g.size | exact (rF6.gr g).mono (fun k h => ⟨h.1, Nat.lt_of_lt_of_le h.2 g.size⟩))⟩) (V.mono_cons (by rintro v wz wz' g ⟨ra6, rc6, rfl, rF6⟩; exact ⟨ra6, rc6, rfl, (by first | exact (rF6.gr g).mono (V.In.sub (Nat.le_refl _) g.size) | exact rF6.gr g | exact (rF6.gr g).mono (fun _ h => h) (Nat.le_refl _) g.size | exact (rF6.gr g).mono (fun k h => ⟨h.1, Nat.lt_of_lt_of_le h.2 g.size⟩))⟩) (V.mono_cons (by rintro v wz wz' g ⟨ra5, rc5, rfl, rF5⟩; exact ⟨ra5, rc5, rfl, (by first | exact (rF5.gr g).mono (V.In.sub (Nat.le_refl _) g.size) | exact rF5.gr g | exact (rF5.gr g).mono (fun _ h => h) (Nat.le_refl _) g.size | exact (rF5.gr g).mono (fun k h => ⟨h.1, Nat.lt_of_lt_of_le h.2 g.size⟩))⟩) (V.mono_cons (by rintro v wz wz' g ⟨ra5, rc5, rfl, rF5⟩; exact ⟨ra5, rc5, rfl, (by first | exact (rF5.gr g).mono (V.In.sub (Nat.le_refl _) g.size) | exact rF5.gr g | exact (rF5.gr g).mono (fun _ h => h) (Nat.le_refl _) g.size | exact (rF5.gr g).mono (fun k h => ⟨h.1, Nat.lt_of_lt_of_le h.2 g.size⟩))⟩) V.mono_nil))))) ?_
      refine V.grun T_ok 8 rfl (V.sel_none rfl) ?_
      refine V.gyes rfl rfl rfl ?_
      refine V.gcall (fun w' h => (dcell_spec (F84.gr h.1)).mono (by rintro v w'' ⟨ra6, rc6, rfl, rF6, G⟩; exact ⟨⟨ra6, rc6, rfl, (by first | exact rF6.mono (V.In.mono_l h.1.size) | exact rF6 | exact rF6.mono (fun _ h => h) h.1.size (Nat.le_refl _))⟩, G⟩)) rfl rfl rfl rfl ?_
      rintro _ w97 - - ⟨a94, c95, rfl, -⟩
      refine V.gyes rfl rfl rfl ?_
      refine V.gtoStr (fun w' h => by obtain ⟨_, _, he, F0⟩ := (V.Hist.here (h.get (i := 8) rfl)); cases he; exact F0.sl.mono (fun _ _ => trivial)) Try.underlying22 Try.underlying5 Try.underlying9 rfl rfl rfl rfl rfl ?_
      refine V.grun T_ok 1 rfl (V.sel_none rfl) ?_
      refine V.gyes rfl rfl rfl ?_
      refine V.gtoStr (fun w' h => F_safe.gr h.1) Try.underlying22 Try.underlying5 Try.underlying9 rfl rfl rfl rfl rfl ?_
      refine V.grun T_ok 3 rfl (V.sel_none rfl) ?_
      refine V.gsplitT (j := 14) (t := 92) rfl rfl (by (apply decide_eq_true; simp only [dCrash, cond_true, cond_false, hsc, hnc])) ?_
      refine V.grun T_ok 1 rfl (V.sel_none rfl) ?_
      refine V.gyes rfl rfl rfl ?_
      refine V.gcall (fun w' h => (dcell_spec (F90.gr h.1)).mono (by rintro v w'' ⟨ra6, rc6, rfl, rF6, G⟩; exact ⟨⟨ra6, rc6, rfl, (by first | exact rF6.mono (V.In.mono_l h.1.size) | exact rF6 | exact rF6.mono (fun _ h => h) h.1.size (Nat.le_refl _))⟩, G⟩)) rfl rfl rfl rfl ?_
      rintro _ w101 - - ⟨a98, c99, rfl, -⟩
      refine V.gyes rfl rfl rfl ?_
      refine V.gtoStr (fun w' h => by obtain ⟨_, _, he, F0⟩ := (V.Hist.here (h.get (i := 16) rfl)); cases he; exact F0.sl.mono (fun _ _ => trivial)) Try.underlying22 Try.underlying5 Try.underlying9 rfl rfl rfl rfl rfl ?_
      refine V.grun T_ok 4 rfl (V.sel_none rfl) ?_
      refine V.gsplitT (j := 21) (t := 99) rfl rfl (by (apply decide_eq_true; simp only [dCrash, cond_true, cond_false, hsc, hnc])) ?_
      refine V.grun T_ok 1 rfl (V.sel_none rfl) ?_
      refine V.gyes rfl rfl rfl ?_
      refine V.gcall (fun w' h => (dcell_spec (F26.gr h.1)).mono (by rintro v w'' ⟨ra6, rc6, rfl, rF6, G⟩; exact ⟨⟨ra6, rc6, rfl, (by first | exact rF6.mono (V.In.mono_l h.1.size) | exact rF6 | exact rF6.mono (fun _ h => h) h.1.size (Nat.le_refl _))⟩, G⟩)) rfl rfl rfl rfl ?_
      rintro _ w105 - - ⟨a102, c103, rfl, -⟩
      refine V.gyes rfl rfl rfl ?_
      refine V.gtoStr (fun w' h => by obtain ⟨_, _, he, F0⟩ := (V.Hist.here (h.get (i := 23) rfl)); cases he; exact F0.sl.mono (fun _ _ => trivial)) Try.underlying22 Try.underlying5 Try.underlying9 rfl rfl rfl rfl rfl ?_
      refine V.grun T_ok 4 rfl (V.sel_none rfl) ?_
      refine V.gsplitT (j := 28) (t := 106) rfl rfl (by (apply decide_eq_true; simp only [dCrash, cond_true, cond_false, hsc, hnc])) ?_
      refine V.grun T_ok 1 rfl (V.sel_none rfl) ?_
      refine V.gyes rfl rfl rfl ?_
      refine V.gcall (fun w' h => (dfile_spec (F84.gr h.1)).mono (by rintro v w'' ⟨ra5, rc5, rfl, rF5, G⟩; exact ⟨⟨ra5, rc5, rfl, (by first | exact rF5.mono (V.In.mono_l h.1.size) | exact rF5 | exact rF5.mono (fun _ h => h) h.1.size (Nat.le_refl _))⟩, G⟩)) rfl rfl rfl rfl ?_
      rintro _ w109 - - ⟨a106, c107, rfl, -⟩
      refine V.gyes rfl rfl rfl ?_
      refine V.gtoStr (fun w' h => by obtain ⟨_, _, he, F0⟩ := (V.Hist.here (h.get (i := 30) rfl)); cases he; exact F0.sl.mono (fun _ _ => trivial)) Try.underlying22 Try.underlying5 Try.underlying9 rfl rfl rfl rfl rfl ?_
      refine V.grun T_ok 1 rfl (V.sel_none rfl) ?_
      refine V.gyes rfl rfl rfl ?_
      refine V.gcall (fun w' h => (dfile_spec (F90.gr h.1)).mono (by rintro v w'' ⟨ra5, rc5, rfl, rF5, G⟩; exact ⟨⟨ra5, rc5, rfl, (by first | exact rF5.mono (V.In.mono_l h.1.size) | exact rF5 | exact rF5.mono (fun _ h => h) h.1.size (Nat.le_refl _))⟩, G⟩)) rfl rfl rfl rfl ?_
      rintro _ w113 - - ⟨a110, c111, rfl, -⟩
      refine V.gyes rfl rfl rfl ?_
      refine V.gtoStr (fun w' h => by obtain ⟨_, _, he, F0⟩ := (V.Hist.here (h.get (i := 33) rfl)); cases he; exact F0.sl.mono (fun _ _ => trivial)) Try.underlying22 Try.underlying5 Try.underlying9 rfl rfl rfl rfl rfl ?_
      refine V.gnil ?_
      rintro w114 G115 hH116
      have z117 := V.Fr.size G115
      try replace F_safe := F_safe.gr G115
      try replace F_l := F_l.gr G115
      try replace FB := FB.gr G115
      try replace Fk2 := Fk2.gr G115
      try replace F26 := F26.gr G115
      try replace F84 := F84.gr G115
      try replace F90 := F90.gr G115
      replace HG := HG.grow G115
      clear G115
      have F96 : V.Row V.Cod.byte 5 w114 V.None' w91.heap.size w114.heap.size a94 c95 (dCrash d n torn false).nc := by
        obtain ⟨_, _, he, F0⟩ := (V.Hist.here (V.Hist.old (V.Hist.old (V.Hist.old (V.Hist.old (hH116 8))))))
        cases he
        exact F0
      have F100 : V.Row V.Cod.byte 5 w114 V.None' w91.heap.size w114.heap.size a98 c99 (dCrash d n torn true).nc := by
        obtain ⟨_, _, he, F0⟩ := (V.Hist.here (V.Hist.old (V.Hist.old (V.Hist.old (hH116 16)))))
        cases he
        exact F0
      have F104 : V.Row V.Cod.byte 5 w114 V.None' w91.heap.size w114.heap.size a102 c103 d.nc := by
        obtain ⟨_, _, he, F0⟩ := (V.Hist.here (V.Hist.old (V.Hist.old (hH116 23))))
        cases he
        exact F0
      have F108 : V.Row V.Cod.byte 5 w114 V.None' w91.heap.size w114.heap.size a106 c107 (dCrash d n torn false).nf := by
        obtain ⟨_, _, he, F0⟩ := (V.Hist.here (V.Hist.old (hH116 30)))
        cases he
        exact F0
      have F112 : V.Row V.Cod.byte 5 w114 V.None' w91.heap.size w114.heap.size a110 c111 (dCrash d n torn true).nf := by
        obtain ⟨_, _, he, F0⟩ := (V.Hist.here (hH116 33))
        cases he
        exact F0
      clear hH116
      refine V.run T_ok 3 rfl ?_
      refine V.nil ?_
      refine V.tN ?_
      refine V.ret ?_
      refine V.done rfl ?_
      exact ⟨congrArg Value.bool (decide_eq_true (by simp only [dCrash])), HG⟩

end Go.Proofs.Ytomacafijmngnaa
