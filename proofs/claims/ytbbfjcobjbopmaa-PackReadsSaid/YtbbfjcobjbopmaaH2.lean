/- Proved here: walks: what functions of this seat's program return and what they leave of memory, each as a contract. Conditions: stated at each theorem. -/
import Derived.Test.YtbbfjcobjbopmaaH1
namespace Go.Proofs.Ytbbfjcobjbopmaa
set_option linter.unusedVariables false
set_option linter.unusedSimpArgs false
open Go
open V (Bytes Meets Env Sl Own Gr Fr Cells S)

/-! ### The document's answer: numbers, flags, texts -/
/-- The reference's reader at block k: bytes, where it is, whether something was wrong. -/
structure Ref (w : World) (k : Nat) (D : Nat → Prop) (bs : List UInt8) (i : Nat) (bad : Bool) : Prop where
  ex : ∃ a c, Cells w k [.slice a bs.length c, .int .i64 i, .bool bad] 65 ∧ Bytes w D a c bs
  le : i ≤ bs.length
theorem Ref.gr {w w' : World} {k i : Nat} {D : Nat → Prop} {bs : List UInt8} {bad : Bool} (h : Ref w k D bs i bad) (f : Gr w w') : Ref w' k D bs i bad := let ⟨a, c, h1, h2⟩ := h.ex; ⟨⟨a, c, h1.gr f, h2.gr f⟩, h.le⟩
theorem Ref.mv1 {w w' : World} {k i j : Nat} {D : Nat → Prop} {bs : List UInt8} {bad : Bool} (h : Ref w k D bs i bad) (f : Fr [j] w w') (hn : j ≠ k ∧ ¬ D j) : Ref w' k D bs i bad := let ⟨a, c, h1, h2⟩ := h.ex; ⟨⟨a, c, h1.mv1 f hn.1, h2.mv1 f hn.2⟩, h.le⟩
theorem Ref.lt {w : World} {k i : Nat} {D : Nat → Prop} {bs : List UInt8} {bad : Bool} (h : Ref w k D bs i bad) : k < w.heap.size := let ⟨_, _, h1, _⟩ := h.ex; h1.lt

set_option maxHeartbeats 4000000 in
set_option maxRecDepth 10000 in
theorem ref_number_spec {w : World} {v : Int} (hv : v ≤ 9223372036854775807) :
    Meets Try.prog 46 [.int .i64 v] w fun r w' => ∃ a' c', r = .slice a' (numB v.toNat).length c' ∧ V.New V.Cod.byte 5 w w' a' c' (numB v.toNat) ∧ Gr w w' := by
  have hvv : max v 0 = ((v.toNat : Nat) : Int) := by omega
  have HG := V.Fr.refl [] w
  refine V.enter (n := 22) Try.func46 rfl rfl (by decide) rfl ?_
  refine V.seq ?_
  refine V.region ?_
  refine V.run T_ok 1 rfl ?_
  refine V.nil ?_
  refine V.tN ?_
  refine V.seq ?_
  refine V.seq ?_
  refine V.region ?_
  refine V.run T_ok 2 rfl ?_
  refine V.nil ?_
  refine V.tN ?_
  refine V.condT rfl (fun h1 => ?_) (fun h1 => ?_)
  ·
    try simp only [decide_eq_true_eq, decide_eq_false_iff_not, Bool.or_eq_true, Bool.and_eq_true, Bool.or_eq_false_iff, Bool.and_eq_false_iff, Bool.not_eq_true', Bool.not_eq_false', Int.not_lt, Int.not_le, Decidable.not_not] at h1
    refine V.region ?_
    refine V.run T_ok 1 rfl ?_
    refine V.nil ?_
    refine V.tN ?_
    refine V.seq ?_
    refine V.region ?_
    refine V.run T_ok 1 rfl ?_
    refine V.nil ?_
    refine V.tN ?_
    refine V.seq ?_
    refine V.block ?_
    have Facc : V.Acc V.Cod.byte 5 w w.heap.size none 0 ([] : List UInt8) := ⟨.inl ⟨rfl, Sl.nil _ _ _ none 0 (by simp [maxLen])⟩⟩
    refine V.loop (fun e w' => Gr w w' ∧ ∃ (ks : List UInt8) (u m : Nat) (a : Option Addr) (c : Nat), numB v.toNat = ks ++ numB u ∧ u < 128 ^ m ∧ 1 ≤ m ∧ ks.length + m = 9 ∧ e 3 = .slice a ks.length c ∧ e 0 = .int .i64 u ∧ V.Acc V.Cod.byte 5 w' w.heap.size a c ks) (fun e w' => (V.intOf (e 0)).toNat) ?_ ?_
    ·
      refine ⟨HG, [], v.toNat, 9, none, 0, rfl, by omega, by omega, rfl, rfl, congrArg (Value.int .i64) (by omega), Facc⟩
    rintro e w' ⟨HG, ks, u, m, a2, c2, hks, hu, hm1, hkl, h0, h1, Facc⟩
    have hu63 : u ≤ 9223372036854775807 := by
      have h1 : 128 ^ m ≤ 128 ^ 9 := Nat.pow_le_pow_right (by decide) (by omega)
      have h2 : (128 : Nat) ^ 9 = 9223372036854775808 := by decide
      omega
    have hmeas : (V.intOf (e 0)).toNat = u := by rw [h1]; simp [V.intOf]
    rw [hmeas]
    refine V.knownC (t := 3) h0 ?_
    refine V.knownC (t := 0) h1 ?_
    refine V.seq ?_
    refine V.seq ?_
    refine V.region ?_
    refine V.run T_ok 2 rfl ?_
    refine V.nil ?_
    refine V.tN ?_
    refine V.condT rfl (fun h4 => ?_) (fun h4 => ?_)
    ·
      try simp only [decide_eq_true_eq, decide_eq_false_iff_not, Bool.or_eq_true, Bool.and_eq_true, Bool.or_eq_false_iff, Bool.and_eq_false_iff, Bool.not_eq_true', Bool.not_eq_false', Int.not_lt, Int.not_le, Decidable.not_not] at h4
      refine V.skip ?_
      refine V.tN ?_
      refine V.block ?_
      refine V.seq ?_
      refine V.region ?_
      refine V.run T_ok 2 rfl ?_
      first | refine V.remN rfl rfl rfl rfl rfl (by omega) (by omega) ?_ | refine V.run T_ok 1 rfl ?_
      first | refine V.addN rfl rfl rfl rfl rfl (by omega) (by omega) ?_ | refine V.run T_ok 1 rfl ?_
      refine V.run T_ok 1 rfl ?_
      refine V.mkSlice T_ok zero5 rfl rfl sz5 rfl rfl rfl rfl rfl rfl ?_
      rintro kb w1 s3 s4 G2 Fkb
      have z5 := V.Fr.size G2
      replace Facc := Facc.gr G2
      replace HG := HG.grow G2
      clear G2
      rw [show (IntKind.u8.wrap (128 + (u : Int) % 128)) = (((UInt8.ofNat (128 + u % 128)).toNat : Nat) : Int) by rw [byte_of _ (by omega)]; congr 3] at Fkb
      refine V.appendA V.flat_byte (Facc) (V.from_byte Fkb Try.underlying23) elT23_23 rfl rfl rfl rfl rfl (by (simp only [List.length_cons, List.length_nil]; omega)) (by unfold maxLen; (simp only [List.length_cons, List.length_nil]; omega)) (by have := HG.size; omega) (by simp) ?_
      rintro a3 c3 w6 G7 s8 ⟨g3, q9, q10, Fnew⟩
      clear Facc
      clear Fkb
      have z11 := Go.RowKit.Below.size G7
      replace HG := HG.bl G7
      clear G7
      have F3 := Fnew; clear Fnew
      refine V.run T_ok 1 rfl ?_
      refine V.nil ?_
      refine V.tN ?_
      refine V.region ?_
      refine V.run T_ok 1 rfl ?_
      first | refine V.quoN rfl rfl rfl rfl rfl (by omega) (by omega) (by omega) ?_ | refine V.run T_ok 1 rfl ?_
      refine V.run T_ok 1 rfl ?_
      refine V.nil ?_
      refine V.bN ?_
      refine V.tN ?_
      have hn : numB u = UInt8.ofNat (128 + u % 128) :: numB (u / 128) := numB_ge (by omega)
      have hm2 : 2 ≤ m := by
        rcases Nat.lt_or_ge m 2 with h | h
        · have : m = 1 := by omega
          subst this; omega
        · exact h
      have hu2 : u / 128 < 128 ^ (m - 1) := by
        have : 128 ^ m = 128 * 128 ^ (m - 1) := by rw [show m = (m - 1) + 1 by omega, Nat.pow_succ, Nat.mul_comm]; rfl
        exact Nat.div_lt_of_lt_mul (by omega)
      refine ⟨⟨HG, ks ++ [UInt8.ofNat (128 + u % 128)], u / 128, m - 1, a3, c3, by rw [hks, hn]; simp, hu2, by omega, by rw [List.length_append]; simp; omega, rfl, rfl, ⟨.inr ⟨g3, by assumption, F3⟩⟩⟩, ?_⟩
      show ((u : Int) / 128).toNat < _
      omega
    ·
      try simp only [decide_eq_true_eq, decide_eq_false_iff_not, Bool.or_eq_true, Bool.and_eq_true, Bool.or_eq_false_iff, Bool.and_eq_false_iff, Bool.not_eq_true', Bool.not_eq_false', Int.not_lt, Int.not_le, Decidable.not_not] at h4
      refine V.exit ?_
      refine V.tX ?_
      refine V.tX ?_
      refine V.bE ?_
      refine V.tN ?_
      refine V.seq ?_
      refine V.region ?_
      refine V.run T_ok 2 rfl ?_
      refine V.run T_ok 1 rfl ?_
      refine V.mkSlice T_ok zero5 rfl rfl sz5 rfl rfl rfl rfl rfl rfl ?_
      rintro kb w12 s14 s15 G13 Fkb
      have z16 := V.Fr.size G13
      replace Facc := Facc.gr G13
      replace HG := HG.grow G13
      clear G13
      rw [byte_of _ (by omega)] at Fkb
      refine V.appendA V.flat_byte (Facc) (V.from_byte Fkb Try.underlying23) elT23_23 rfl rfl rfl rfl rfl (by (simp only [List.length_cons, List.length_nil]; omega)) (by unfold maxLen; (simp only [List.length_cons, List.length_nil]; omega)) (by have := HG.size; omega) (by simp) ?_
      rintro a3 c3 w17 G18 s19 ⟨g3, q20, q21, Fnew⟩
      clear Facc
      clear Fkb
      have z22 := Go.RowKit.Below.size G18
      replace HG := HG.bl G18
      clear G18
      have F3 := Fnew; clear Fnew
      refine V.run T_ok 1 rfl ?_
      refine V.nil ?_
      refine V.tN ?_
      refine V.ret ?_
      refine V.done rfl ?_
      have hn : numB v.toNat = ks ++ [UInt8.ofNat u] := by rw [hks, numB_lt (by omega)]
      rw [hn]
      exact ⟨_, _, rfl, ⟨g3, by assumption, by omega, F3⟩, HG⟩
  ·
    try simp only [decide_eq_true_eq, decide_eq_false_iff_not, Bool.or_eq_true, Bool.and_eq_true, Bool.or_eq_false_iff, Bool.and_eq_false_iff, Bool.not_eq_true', Bool.not_eq_false', Int.not_lt, Int.not_le, Decidable.not_not] at h1
    refine V.skip ?_
    refine V.tN ?_
    refine V.seq ?_
    refine V.region ?_
    refine V.run T_ok 1 rfl ?_
    refine V.nil ?_
    refine V.tN ?_
    refine V.seq ?_
    refine V.block ?_
    have Facc : V.Acc V.Cod.byte 5 w w.heap.size none 0 ([] : List UInt8) := ⟨.inl ⟨rfl, Sl.nil _ _ _ none 0 (by simp [maxLen])⟩⟩
    refine V.loop (fun e w' => Gr w w' ∧ ∃ (ks : List UInt8) (u m : Nat) (a : Option Addr) (c : Nat), numB v.toNat = ks ++ numB u ∧ u < 128 ^ m ∧ 1 ≤ m ∧ ks.length + m = 9 ∧ e 3 = .slice a ks.length c ∧ e 0 = .int .i64 u ∧ V.Acc V.Cod.byte 5 w' w.heap.size a c ks) (fun e w' => (V.intOf (e 0)).toNat) ?_ ?_
    ·
      refine ⟨HG, [], v.toNat, 9, none, 0, rfl, by omega, by omega, rfl, rfl, congrArg (Value.int .i64) (by omega), Facc⟩
    rintro e w' ⟨HG, ks, u, m, a2, c2, hks, hu, hm1, hkl, h0, h1, Facc⟩
    have hu63 : u ≤ 9223372036854775807 := by
      have h1 : 128 ^ m ≤ 128 ^ 9 := Nat.pow_le_pow_right (by decide) (by omega)
      have h2 : (128 : Nat) ^ 9 = 9223372036854775808 := by decide
      omega
    have hmeas : (V.intOf (e 0)).toNat = u := by rw [h1]; simp [V.intOf]
    rw [hmeas]
    refine V.knownC (t := 3) h0 ?_
    refine V.knownC (t := 0) h1 ?_
    refine V.seq ?_
    refine V.seq ?_
    refine V.region ?_
    refine V.run T_ok 2 rfl ?_
    refine V.nil ?_
    refine V.tN ?_
    refine V.condT rfl (fun h4 => ?_) (fun h4 => ?_)
    ·
      try simp only [decide_eq_true_eq, decide_eq_false_iff_not, Bool.or_eq_true, Bool.and_eq_true, Bool.or_eq_false_iff, Bool.and_eq_false_iff, Bool.not_eq_true', Bool.not_eq_false', Int.not_lt, Int.not_le, Decidable.not_not] at h4
      refine V.skip ?_
      refine V.tN ?_
      refine V.block ?_
      refine V.seq ?_
      refine V.region ?_
      refine V.run T_ok 2 rfl ?_
      first | refine V.remN rfl rfl rfl rfl rfl (by omega) (by omega) ?_ | refine V.run T_ok 1 rfl ?_
      first | refine V.addN rfl rfl rfl rfl rfl (by omega) (by omega) ?_ | refine V.run T_ok 1 rfl ?_
      refine V.run T_ok 1 rfl ?_
      refine V.mkSlice T_ok zero5 rfl rfl sz5 rfl rfl rfl rfl rfl rfl ?_
      rintro kb w23 s25 s26 G24 Fkb
      have z27 := V.Fr.size G24
      replace Facc := Facc.gr G24
      replace HG := HG.grow G24
      clear G24
      rw [show (IntKind.u8.wrap (128 + (u : Int) % 128)) = (((UInt8.ofNat (128 + u % 128)).toNat : Nat) : Int) by rw [byte_of _ (by omega)]; congr 3] at Fkb
      refine V.appendA V.flat_byte (Facc) (V.from_byte Fkb Try.underlying23) elT23_23 rfl rfl rfl rfl rfl (by (simp only [List.length_cons, List.length_nil]; omega)) (by unfold maxLen; (simp only [List.length_cons, List.length_nil]; omega)) (by have := HG.size; omega) (by simp) ?_
      rintro a3 c3 w28 G29 s30 ⟨g3, q31, q32, Fnew⟩
      clear Facc
      clear Fkb
      have z33 := Go.RowKit.Below.size G29
      replace HG := HG.bl G29
      clear G29
      have F3 := Fnew; clear Fnew
      refine V.run T_ok 1 rfl ?_
      refine V.nil ?_
      refine V.tN ?_
      refine V.region ?_
      refine V.run T_ok 1 rfl ?_
      first | refine V.quoN rfl rfl rfl rfl rfl (by omega) (by omega) (by omega) ?_ | refine V.run T_ok 1 rfl ?_
      refine V.run T_ok 1 rfl ?_
      refine V.nil ?_
      refine V.bN ?_
      refine V.tN ?_
      have hn : numB u = UInt8.ofNat (128 + u % 128) :: numB (u / 128) := numB_ge (by omega)
      have hm2 : 2 ≤ m := by
        rcases Nat.lt_or_ge m 2 with h | h
        · have : m = 1 := by omega
          subst this; omega
        · exact h
      have hu2 : u / 128 < 128 ^ (m - 1) := by
        have : 128 ^ m = 128 * 128 ^ (m - 1) := by rw [show m = (m - 1) + 1 by omega, Nat.pow_succ, Nat.mul_comm]; rfl
        exact Nat.div_lt_of_lt_mul (by omega)
      refine ⟨⟨HG, ks ++ [UInt8.ofNat (128 + u % 128)], u / 128, m - 1, a3, c3, by rw [hks, hn]; simp, hu2, by omega, by rw [List.length_append]; simp; omega, rfl, rfl, ⟨.inr ⟨g3, by assumption, F3⟩⟩⟩, ?_⟩
      show ((u : Int) / 128).toNat < _
      omega
    ·
      try simp only [decide_eq_true_eq, decide_eq_false_iff_not, Bool.or_eq_true, Bool.and_eq_true, Bool.or_eq_false_iff, Bool.and_eq_false_iff, Bool.not_eq_true', Bool.not_eq_false', Int.not_lt, Int.not_le, Decidable.not_not] at h4
      refine V.exit ?_
      refine V.tX ?_
      refine V.tX ?_
      refine V.bE ?_
      refine V.tN ?_
      refine V.seq ?_
      refine V.region ?_
      refine V.run T_ok 2 rfl ?_
      refine V.run T_ok 1 rfl ?_
      refine V.mkSlice T_ok zero5 rfl rfl sz5 rfl rfl rfl rfl rfl rfl ?_
      rintro kb w34 s36 s37 G35 Fkb
      have z38 := V.Fr.size G35
      replace Facc := Facc.gr G35
      replace HG := HG.grow G35
      clear G35
      rw [byte_of _ (by omega)] at Fkb
      refine V.appendA V.flat_byte (Facc) (V.from_byte Fkb Try.underlying23) elT23_23 rfl rfl rfl rfl rfl (by (simp only [List.length_cons, List.length_nil]; omega)) (by unfold maxLen; (simp only [List.length_cons, List.length_nil]; omega)) (by have := HG.size; omega) (by simp) ?_
      rintro a3 c3 w39 G40 s41 ⟨g3, q42, q43, Fnew⟩
      clear Facc
      clear Fkb
      have z44 := Go.RowKit.Below.size G40
      replace HG := HG.bl G40
      clear G40
      have F3 := Fnew; clear Fnew
      refine V.run T_ok 1 rfl ?_
      refine V.nil ?_
      refine V.tN ?_
      refine V.ret ?_
      refine V.done rfl ?_
      have hn : numB v.toNat = ks ++ [UInt8.ofNat u] := by rw [hks, numB_lt (by omega)]
      rw [hn]
      exact ⟨_, _, rfl, ⟨g3, by assumption, by omega, F3⟩, HG⟩

set_option maxHeartbeats 4000000 in
set_option maxRecDepth 10000 in
theorem ref_flag_spec {w : World} {v : Bool} :
    Meets Try.prog 47 [.bool v] w fun r w' => ∃ a' c', r = .slice a' (flagB v).length c' ∧ V.New V.Cod.byte 5 w w' a' c' (flagB v) ∧ Gr w w' := by
  have HG := V.Fr.refl [] w
  refine V.enter (n := 6) Try.func47 rfl rfl (by decide) rfl ?_
  refine V.seq ?_
  refine V.region ?_
  refine V.run T_ok 1 rfl ?_
  refine V.nil ?_
  refine V.tN ?_
  refine V.seq ?_
  refine V.seq ?_
  refine V.region ?_
  refine V.run T_ok 1 rfl ?_
  refine V.nil ?_
  refine V.tN ?_
  refine V.condT rfl (fun h1 => ?_) (fun h1 => ?_)
  ·
    try simp only [decide_eq_true_eq, decide_eq_false_iff_not, Bool.or_eq_true, Bool.and_eq_true, Bool.or_eq_false_iff, Bool.and_eq_false_iff, Bool.not_eq_true', Bool.not_eq_false', Int.not_lt, Int.not_le, Decidable.not_not] at h1
    refine V.seq ?_
    refine V.region ?_
    refine V.mkSlice T_ok zero5 rfl rfl sz5 rfl rfl rfl rfl rfl rfl ?_
    rintro k1 w1 s3 s4 G2 Fk1
    have z5 := V.Fr.size G2
    replace HG := HG.grow G2
    clear G2
    refine V.run T_ok 1 rfl ?_
    refine V.nil ?_
    refine V.tN ?_
    refine V.ret ?_
    refine V.tR ?_
    refine V.done rfl ?_
    subst h1
    exact ⟨_, _, rfl, ⟨k1, by omega, Fk1.lt, ⟨Nat.le_refl 1, by simp [maxLen], .inr ⟨rfl, _, _, Fk1, rfl, rfl, V.reps_one (C := V.Cod.byte) (x := (1 : UInt8)) rfl⟩⟩⟩, HG⟩
  ·
    try simp only [decide_eq_true_eq, decide_eq_false_iff_not, Bool.or_eq_true, Bool.and_eq_true, Bool.or_eq_false_iff, Bool.and_eq_false_iff, Bool.not_eq_true', Bool.not_eq_false', Int.not_lt, Int.not_le, Decidable.not_not] at h1
    refine V.skip ?_
    refine V.tN ?_
    refine V.seq ?_
    refine V.region ?_
    refine V.mkSlice T_ok zero5 rfl rfl sz5 rfl rfl rfl rfl rfl rfl ?_
    rintro k1 w6 s8 s9 G7 Fk1
    have z10 := V.Fr.size G7
    replace HG := HG.grow G7
    clear G7
    refine V.run T_ok 1 rfl ?_
    refine V.nil ?_
    refine V.tN ?_
    refine V.ret ?_
    refine V.done rfl ?_
    subst h1
    exact ⟨_, _, rfl, ⟨k1, by omega, Fk1.lt, ⟨Nat.le_refl 1, by simp [maxLen], .inr ⟨rfl, _, _, Fk1, rfl, rfl, V.reps_one (C := V.Cod.byte) (x := (0 : UInt8)) rfl⟩⟩⟩, HG⟩

set_option maxHeartbeats 4000000 in
set_option maxRecDepth 10000 in
theorem ref_text_spec {w : World} {s : ByteArray} (hs : s.size ≤ 70368744177664) :
    Meets Try.prog 48 [.string s] w fun r w' => ∃ a' c', r = .slice a' (textB s.data.toList).length c' ∧ V.New V.Cod.byte 5 w w' a' c' (textB s.data.toList) ∧ Gr w w' := by
  have HG := V.Fr.refl [] w
  refine V.enter (n := 8) Try.func48 rfl rfl (by decide) rfl ?_
  refine V.seq ?_
  refine V.region ?_
  refine V.run T_ok 1 rfl ?_
  refine V.nil ?_
  refine V.tN ?_
  refine V.seq ?_
  refine V.region ?_
  refine V.run T_ok 2 rfl ?_
  refine V.call (ref_number_spec (by omega)) rfl rfl rfl ?_
  rintro _ w1 ⟨a1, c1, rfl, ⟨g1, hg1, hg2, F1⟩, G2⟩
  have z3 := V.Fr.size G2
  replace HG := HG.grow G2
  clear G2
  refine V.run T_ok 1 rfl ?_
  refine V.appendO (F1) (V.from_str Try.underlying9 s) elT23_9 rfl rfl rfl rfl rfl (by (have := numB_len9 (v := s.size) (by omega); have := V.length_data s; omega)) (by unfold maxLen; (have := numB_len9 (v := s.size) (by omega); have := V.length_data s; omega)) (by first | omega | exact fun h => h) ?_
  rintro g2 a2 c2 w4 G5 s6 horg2 hltg2 Fnew
  clear F1
  have z7 := V.Fr.size G5
  replace HG := HG.new1 G5 (by first | (refine Or.inr ?_; omega) | (refine Or.inl ?_; simp; done))
  clear G5
  have F2 := Fnew; clear Fnew
  refine V.run T_ok 1 rfl ?_
  refine V.nil ?_
  refine V.tN ?_
  refine V.ret ?_
  refine V.done rfl ?_
  have hx : s.data.toList.length = s.size := V.length_data s
  have he : textB s.data.toList = numB (s.size : Int).toNat ++ s.data.toList := by simp [textB, hx]
  rw [he]
  exact ⟨_, _, rfl, ⟨g2, by omega, hltg2 (by intro h; have h1 := congrArg List.length h; rw [List.length_append, List.length_nil] at h1; have := numB_pos (s.size : Int).toNat; omega), F2⟩, HG⟩

set_option maxHeartbeats 4000000 in
set_option maxRecDepth 10000 in
theorem ref_open_spec {w : World} {D : Nat → Prop} {c : Nat} {a : Option Addr} {bs : List UInt8} (F : Bytes w D a c bs) :
    Meets Try.prog 32 [.slice a bs.length c] w fun r w' => ∃ k, r = .pointer (some ⟨k, 0, none⟩) ∧ w.heap.size ≤ k ∧ Ref w' k D bs 0 false ∧ Gr w w' := by
  have HG := V.Fr.refl [] w
  refine V.enter (n := 6) Try.func32 rfl rfl (by decide) rfl ?_
  refine V.seq ?_
  refine V.region ?_
  refine V.run T_ok 1 rfl ?_
  refine V.nil ?_
  refine V.tN ?_
  refine V.seq ?_
  refine V.region ?_
  refine V.run T_ok 1 rfl ?_
  refine V.mkStruct T_ok zero65 rfl rfl rfl rfl rfl ?_
  refine V.box rfl rfl rfl rfl ?_
  rintro k1 w1 s3 s4 G2 Fk1
  have z5 := V.Fr.size G2
  replace F := F.gr G2
  replace HG := HG.grow G2
  clear G2
  try simp only [V.cellsL, V.spliceL] at Fk1
  refine V.run T_ok 1 rfl ?_
  refine V.nil ?_
  refine V.tN ?_
  refine V.ret ?_
  refine V.done rfl ?_
  exact ⟨k1, rfl, by omega, ⟨⟨_, _, Fk1, F⟩, Nat.zero_le _⟩, HG⟩

end Go.Proofs.Ytbbfjcobjbopmaa
