/- Proved here: walks: what functions of this seat's program return and what they leave of memory, each as a contract. Conditions: stated at each theorem. -/
import Derived.Test.YtbbfjcobjbopmaaH6
namespace Go.Proofs.Ytbbfjcobjbopmaa
set_option linter.unusedVariables false
set_option linter.unusedSimpArgs false
open Go
open V (Bytes Meets Env Sl Own Gr Fr Cells S)

/-! ### Acts -/
structure ActV where
  k : Int
  n : Int
  f : Bool
  s : ByteArray
abbrev actL (x : ActV) : List Value := [.int .i64 x.k, .int .i64 x.n, .bool x.f, .string x.s]
def actC : V.Cod ActV := V.Cod.cells 4 actL (fun _ => rfl) (by intro x u hu; simp [actL] at hu; rcases hu with rfl | rfl | rfl | rfl <;> rfl)
def ActV.ok (x : ActV) : Prop := -9223372036854775808 ≤ x.k ∧ x.k ≤ 9223372036854775807 ∧ -9223372036854775808 ≤ x.n ∧ x.n ≤ 9223372036854775807
theorem opens_act {H : Type} {enc : TypeId × Value → H} {W : World} : V.Opens enc Try.prog W actC ActV.ok 47 :=
  V.Opens.conv (V.opens_struct (C := .pair (.int .i64) (.pair (.int .i64) (.pair .bool .str))) Try.underlying47 (by kernel_rfl)
    (V.ops_cons (by kernel_rfl) (V.opens_i64 Try.underlying3) (V.ops_cons (by kernel_rfl) (V.opens_i64 Try.underlying3) (V.ops_cons (by kernel_rfl) (V.opens_bool Try.underlying4) (V.ops_one (by kernel_rfl) (V.opens_str Try.underlying9))))))
    (fun x => ⟨x.1, x.2.1, x.2.2.1, x.2.2.2⟩) (by rintro w D a cs ⟨_, _, rfl, rfl, _, _, rfl, rfl, _, _, rfl, rfl, rfl⟩; rfl) (fun a h => ⟨h.1.1, h.1.2, h.2.1.1, h.2.1.2⟩)
def actB (x : ActV) : List UInt8 := if x.k = 1 then numB x.n.toNat else if x.k = 2 then flagB x.f else textB x.s.data.toList
theorem actB_pos (x : ActV) : 0 < (actB x).length := by
  unfold actB
  split
  · exact numB_pos _
  · split
    · simp [flagB]
    · rw [textB_len]; have := numB_pos x.s.size; omega
theorem actB_len {x : ActV} (h : x.ok) (hs : x.s.size ≤ 400) : (actB x).length ≤ 409 := by
  unfold actB
  have h1 := numB_len9 h.2.2.2
  have h2 := textB_len x.s
  have h3 := numB_len9 (v := (x.s.size : Int)) (by omega)
  rw [Int.toNat_natCast] at h3
  split
  · omega
  · split
    · simp [flagB]
    · omega

set_option maxHeartbeats 4000000 in
set_option maxRecDepth 10000 in
theorem put_spec {w : World} {D : Nat → Prop} {c : Nat} {a : Option Addr} {bs : List UInt8} {x : ActV} (F : Bytes w D a c bs) (hD : ∀ k, D k → k < w.heap.size) (hl : bs.length ≤ 35184372088832) (hx : x.ok) (hs : x.s.size ≤ 400) :
    Meets Try.prog 28 [.agg (actL x).toArray, .slice a bs.length c] w fun r w' => ∃ a' c', r = .slice a' (bs ++ actB x).length c' ∧ V.New V.Cod.byte 5 w w' a' c' (bs ++ actB x) ∧ Gr w w' := by
  obtain ⟨x1, x2, x3, x4⟩ := hx
  have HG := V.Fr.refl [] w
  refine V.enter (n := 23) Try.func28 rfl rfl (by decide) rfl ?_
  refine V.seq ?_
  refine V.region ?_
  refine V.box rfl rfl rfl rfl ?_
  rintro k0 w1 s3 s4 G2 Fk0
  have z5 := V.Fr.size G2
  replace F := F.gr G2
  replace HG := HG.grow G2
  clear G2
  try simp only [V.cellsL, V.spliceL] at Fk0
  refine V.run T_ok 1 rfl ?_
  refine V.nil ?_
  refine V.tN ?_
  refine V.seq ?_
  refine V.seq ?_
  refine V.region ?_
  refine V.run T_ok 1 rfl ?_
  refine V.loadO T_ok Fk0 rfl rfl rfl rfl rfl ?_
  refine V.nil ?_
  refine V.tN ?_
  refine V.block ?_
  refine V.seq ?_
  refine V.region ?_
  refine V.run T_ok 2 rfl ?_
  refine V.nil ?_
  refine V.tN ?_
  refine V.condT rfl (fun h2 => ?_) (fun h2 => ?_)
  ·
    try simp only [decide_eq_true_eq, decide_eq_false_iff_not, Bool.or_eq_true, Bool.and_eq_true, Bool.or_eq_false_iff, Bool.and_eq_false_iff, Bool.not_eq_true', Bool.not_eq_false', Int.not_lt, Int.not_le, Decidable.not_not] at h2
    refine V.seq ?_
    refine V.region ?_
    refine V.run T_ok 2 rfl ?_
    refine V.loadO T_ok Fk0 rfl rfl rfl rfl rfl ?_
    refine V.call (number_spec F (fun k hk => by have := hD k hk; omega) (by omega) x4) rfl rfl rfl ?_
    rintro _ w6 ⟨a1, c1, rfl, ⟨g1, hg1, hg2, F1⟩, G7⟩
    have z8 := V.Fr.size G7
    replace F := F.gr G7
    replace Fk0 := Fk0.gr G7
    replace HG := HG.grow G7
    clear G7
    refine V.run T_ok 1 rfl ?_
    refine V.nil ?_
    refine V.tN ?_
    refine V.ret ?_
    refine V.bR ?_
    refine V.tR ?_
    refine V.done rfl ?_
    rw [actB, if_pos h2]; exact ⟨_, _, rfl, ⟨g1, by omega, hg2, F1⟩, HG⟩
  ·
    try simp only [decide_eq_true_eq, decide_eq_false_iff_not, Bool.or_eq_true, Bool.and_eq_true, Bool.or_eq_false_iff, Bool.and_eq_false_iff, Bool.not_eq_true', Bool.not_eq_false', Int.not_lt, Int.not_le, Decidable.not_not] at h2
    refine V.seq ?_
    refine V.region ?_
    refine V.run T_ok 2 rfl ?_
    refine V.nil ?_
    refine V.tN ?_
    refine V.condT rfl (fun h4 => ?_) (fun h4 => ?_)
    ·
      try simp only [decide_eq_true_eq, decide_eq_false_iff_not, Bool.or_eq_true, Bool.and_eq_true, Bool.or_eq_false_iff, Bool.and_eq_false_iff, Bool.not_eq_true', Bool.not_eq_false', Int.not_lt, Int.not_le, Decidable.not_not] at h4
      refine V.seq ?_
      refine V.region ?_
      refine V.run T_ok 2 rfl ?_
      refine V.loadO T_ok Fk0 rfl rfl rfl rfl rfl ?_
      refine V.call (flag_spec F (fun k hk => by have := hD k hk; omega) (by omega)) rfl rfl rfl ?_
      rintro _ w9 ⟨a1, c1, rfl, ⟨g1, hg1, hg2, F1⟩, G10⟩
      have z11 := V.Fr.size G10
      replace F := F.gr G10
      replace Fk0 := Fk0.gr G10
      replace HG := HG.grow G10
      clear G10
      refine V.run T_ok 1 rfl ?_
      refine V.nil ?_
      refine V.tN ?_
      refine V.ret ?_
      refine V.bR ?_
      refine V.tR ?_
      refine V.done rfl ?_
      rw [actB, if_neg h2, if_pos h4]; exact ⟨_, _, rfl, ⟨g1, by omega, hg2, F1⟩, HG⟩
    ·
      try simp only [decide_eq_true_eq, decide_eq_false_iff_not, Bool.or_eq_true, Bool.and_eq_true, Bool.or_eq_false_iff, Bool.and_eq_false_iff, Bool.not_eq_true', Bool.not_eq_false', Int.not_lt, Int.not_le, Decidable.not_not] at h4
      refine V.skip ?_
      refine V.bN ?_
      refine V.tN ?_
      refine V.seq ?_
      refine V.region ?_
      refine V.run T_ok 2 rfl ?_
      refine V.loadO T_ok Fk0 rfl rfl rfl rfl rfl ?_
      refine V.call (text_spec F (fun k hk => by have := hD k hk; omega) (by omega) (by omega)) rfl rfl rfl ?_
      rintro _ w12 ⟨a1, c1, rfl, ⟨g1, hg1, hg2, F1⟩, G13⟩
      have z14 := V.Fr.size G13
      replace F := F.gr G13
      replace Fk0 := Fk0.gr G13
      replace HG := HG.grow G13
      clear G13
      refine V.run T_ok 1 rfl ?_
      refine V.nil ?_
      refine V.tN ?_
      refine V.ret ?_
      refine V.done rfl ?_
      rw [actB, if_neg h2, if_neg h4]; exact ⟨_, _, rfl, ⟨g1, by omega, hg2, F1⟩, HG⟩

set_option maxHeartbeats 4000000 in
set_option maxRecDepth 10000 in
theorem bytes_spec {w : World} {x : ActV} (hx : x.ok) (hs : x.s.size ≤ 400) :
    Meets Try.prog 29 [.agg (actL x).toArray] w fun r w' => ∃ a' c', r = .slice a' (actB x).length c' ∧ V.New V.Cod.byte 5 w w' a' c' (actB x) ∧ Gr w w' := by
  obtain ⟨x1, x2, x3, x4⟩ := hx
  have HG := V.Fr.refl [] w
  refine V.enter (n := 18) Try.func29 rfl rfl (by decide) rfl ?_
  refine V.seq ?_
  refine V.region ?_
  refine V.box rfl rfl rfl rfl ?_
  rintro k0 w1 s3 s4 G2 Fk0
  have z5 := V.Fr.size G2
  replace HG := HG.grow G2
  clear G2
  try simp only [V.cellsL, V.spliceL] at Fk0
  refine V.run T_ok 1 rfl ?_
  refine V.nil ?_
  refine V.tN ?_
  refine V.seq ?_
  refine V.seq ?_
  refine V.region ?_
  refine V.run T_ok 1 rfl ?_
  refine V.loadO T_ok Fk0 rfl rfl rfl rfl rfl ?_
  refine V.nil ?_
  refine V.tN ?_
  refine V.block ?_
  refine V.seq ?_
  refine V.region ?_
  refine V.run T_ok 2 rfl ?_
  refine V.nil ?_
  refine V.tN ?_
  refine V.condT rfl (fun h2 => ?_) (fun h2 => ?_)
  ·
    try simp only [decide_eq_true_eq, decide_eq_false_iff_not, Bool.or_eq_true, Bool.and_eq_true, Bool.or_eq_false_iff, Bool.and_eq_false_iff, Bool.not_eq_true', Bool.not_eq_false', Int.not_lt, Int.not_le, Decidable.not_not] at h2
    refine V.seq ?_
    refine V.region ?_
    refine V.run T_ok 1 rfl ?_
    refine V.loadO T_ok Fk0 rfl rfl rfl rfl rfl ?_
    refine V.call (ref_number_spec x4) rfl rfl rfl ?_
    rintro _ w6 ⟨a1, c1, rfl, ⟨g1, hg1, hg2, F1⟩, G7⟩
    have z8 := V.Fr.size G7
    replace Fk0 := Fk0.gr G7
    replace HG := HG.grow G7
    clear G7
    refine V.run T_ok 1 rfl ?_
    refine V.nil ?_
    refine V.tN ?_
    refine V.ret ?_
    refine V.bR ?_
    refine V.tR ?_
    refine V.done rfl ?_
    rw [actB, if_pos h2]; exact ⟨_, _, rfl, ⟨g1, by omega, hg2, F1⟩, HG⟩
  ·
    try simp only [decide_eq_true_eq, decide_eq_false_iff_not, Bool.or_eq_true, Bool.and_eq_true, Bool.or_eq_false_iff, Bool.and_eq_false_iff, Bool.not_eq_true', Bool.not_eq_false', Int.not_lt, Int.not_le, Decidable.not_not] at h2
    refine V.seq ?_
    refine V.region ?_
    refine V.run T_ok 2 rfl ?_
    refine V.nil ?_
    refine V.tN ?_
    refine V.condT rfl (fun h4 => ?_) (fun h4 => ?_)
    ·
      try simp only [decide_eq_true_eq, decide_eq_false_iff_not, Bool.or_eq_true, Bool.and_eq_true, Bool.or_eq_false_iff, Bool.and_eq_false_iff, Bool.not_eq_true', Bool.not_eq_false', Int.not_lt, Int.not_le, Decidable.not_not] at h4
      refine V.seq ?_
      refine V.region ?_
      refine V.run T_ok 1 rfl ?_
      refine V.loadO T_ok Fk0 rfl rfl rfl rfl rfl ?_
      refine V.call (ref_flag_spec) rfl rfl rfl ?_
      rintro _ w9 ⟨a1, c1, rfl, ⟨g1, hg1, hg2, F1⟩, G10⟩
      have z11 := V.Fr.size G10
      replace Fk0 := Fk0.gr G10
      replace HG := HG.grow G10
      clear G10
      refine V.run T_ok 1 rfl ?_
      refine V.nil ?_
      refine V.tN ?_
      refine V.ret ?_
      refine V.bR ?_
      refine V.tR ?_
      refine V.done rfl ?_
      rw [actB, if_neg h2, if_pos h4]; exact ⟨_, _, rfl, ⟨g1, by omega, hg2, F1⟩, HG⟩
    ·
      try simp only [decide_eq_true_eq, decide_eq_false_iff_not, Bool.or_eq_true, Bool.and_eq_true, Bool.or_eq_false_iff, Bool.and_eq_false_iff, Bool.not_eq_true', Bool.not_eq_false', Int.not_lt, Int.not_le, Decidable.not_not] at h4
      refine V.skip ?_
      refine V.bN ?_
      refine V.tN ?_
      refine V.seq ?_
      refine V.region ?_
      refine V.run T_ok 1 rfl ?_
      refine V.loadO T_ok Fk0 rfl rfl rfl rfl rfl ?_
      refine V.call (ref_text_spec (by omega)) rfl rfl rfl ?_
      rintro _ w12 ⟨a1, c1, rfl, ⟨g1, hg1, hg2, F1⟩, G13⟩
      have z14 := V.Fr.size G13
      replace Fk0 := Fk0.gr G13
      replace HG := HG.grow G13
      clear G13
      refine V.run T_ok 1 rfl ?_
      refine V.nil ?_
      refine V.tN ?_
      refine V.ret ?_
      refine V.done rfl ?_
      rw [actB, if_neg h2, if_neg h4]; exact ⟨_, _, rfl, ⟨g1, by omega, hg2, F1⟩, HG⟩

end Go.Proofs.Ytbbfjcobjbopmaa
