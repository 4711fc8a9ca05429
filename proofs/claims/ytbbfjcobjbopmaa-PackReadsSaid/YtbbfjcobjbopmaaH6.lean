/- Proved here: walks: what functions of this seat's program return and what they leave of memory, each as a contract. Conditions: stated at each theorem. -/
import Derived.Test.YtbbfjcobjbopmaaH5
namespace Go.Proofs.Ytbbfjcobjbopmaa
set_option linter.unusedVariables false
set_option linter.unusedSimpArgs false
open Go
open V (Bytes Meets Env Sl Own Gr Fr Cells S)

theorem dec_numB (v : Nat) : ∀ (i acc : Nat) (rest : List UInt8), v < 128 ^ (9 - i) → i < 9 → (i = 0 ∨ 0 < v) → dec (numB v ++ rest) i acc = (acc + v * 128 ^ i, i + (numB v).length) := by
  induction v using Nat.strongRecOn with
  | _ v ih =>
    intro i acc rest h h9 h0
    by_cases h1 : v < 128
    · rw [numB_lt h1]
      show dec (UInt8.ofNat v :: rest) i acc = _
      have hc : (UInt8.ofNat v).toNat = v := by simp; omega
      rw [dec_cons h9, hc, if_pos h1, if_neg (by omega), Nat.mod_eq_of_lt h1]; rfl
    · rw [numB_ge (by omega)]
      show dec (UInt8.ofNat (128 + v % 128) :: (numB (v / 128) ++ rest)) i acc = _
      have hc : (UInt8.ofNat (128 + v % 128)).toNat = 128 + v % 128 := by simp; omega
      have h8 : i + 1 < 9 := by
        rcases Nat.lt_or_ge (i + 1) 9 with h2 | h2
        · exact h2
        · have : i = 8 := by omega
          subst this
          simp at h; omega
      have hp : 128 ^ (9 - i) = 128 * 128 ^ (9 - (i + 1)) := by
        rw [show 9 - i = (9 - (i + 1)) + 1 by omega, Nat.pow_succ, Nat.mul_comm]
      rw [dec_cons h9, hc, if_neg (by omega), ih (v / 128) (by omega) (i + 1) _ rest (Nat.div_lt_of_lt_mul (by omega)) h8 (.inr (by omega))]
      refine Prod.ext ?_ ?_
      · have e1 : (128 + v % 128) % 128 = v % 128 := by omega
        have e2 : 128 ^ (i + 1) = 128 * 128 ^ i := by rw [Nat.pow_succ, Nat.mul_comm]
        have e3 : v * 128 ^ i = v % 128 * 128 ^ i + v / 128 * (128 * 128 ^ i) := by
          rw [← Nat.mul_assoc, ← Nat.add_mul]; congr 1; omega
        simp only [e1, e2, e3]; omega
      · simp only [List.length_cons]; omega
theorem dec_num0 {v : Nat} (h : v ≤ 9223372036854775807) (rest : List UInt8) : dec (numB v ++ rest) 0 0 = (v, (numB v).length) := by
  rw [dec_numB v 0 0 rest (by omega) (by omega) (.inl rfl)]; simp
theorem take_min {α : Type} {a b : List α} (h : a.take (min a.length b.length) = b.take (min a.length b.length)) : (∃ r, b = a ++ r) ∨ ∃ r, a = b ++ r := by
  rcases Nat.le_total a.length b.length with h1 | h1
  · rw [Nat.min_eq_left h1, List.take_length] at h
    exact .inl ⟨b.drop a.length, by conv => lhs; rw [← List.take_append_drop a.length b, ← h]⟩
  · rw [Nat.min_eq_right h1, List.take_length] at h
    exact .inr ⟨a.drop b.length, by conv => lhs; rw [← List.take_append_drop b.length a, h]⟩
theorem numB_pre {u v : Nat} (hu : u ≤ 9223372036854775807) (hv : v ≤ 9223372036854775807) {r : List UInt8} (h : numB v = numB u ++ r) : u = v := by
  have h1 := dec_num0 hv []
  rw [List.append_nil, h, dec_num0 hu r] at h1
  exact congrArg Prod.fst h1
theorem num_iff {n m : Int} (hn : n ≤ 9223372036854775807) (hm : m ≤ 9223372036854775807) : (numB n.toNat).take (min (numB n.toNat).length (numB m.toNat).length) = (numB m.toNat).take (min (numB n.toNat).length (numB m.toNat).length) ↔ max n 0 = max m 0 := by
  constructor
  · intro h
    have : n.toNat = m.toNat := by
      rcases take_min h with ⟨r, hr⟩ | ⟨r, hr⟩
      · exact numB_pre (by omega) (by omega) hr
      · exact (numB_pre (by omega) (by omega) hr).symm
    omega
  · intro h
    have : n.toNat = m.toNat := by omega
    rw [this]
theorem textB_pre {s t r : List UInt8} (hs : s.length ≤ 400) (ht : t.length ≤ 400) (h : textB t = textB s ++ r) : s = t := by
  have h1 := dec_num0 (v := t.length) (by omega) t
  have h2 := dec_num0 (v := s.length) (by omega) (s ++ r)
  have e : numB t.length ++ t = numB s.length ++ (s ++ r) := by simpa [textB] using h
  rw [e, h2] at h1
  have h3 : s.length = t.length := congrArg Prod.fst h1
  rw [h3] at e
  have e2 := List.append_cancel_left e
  have e3 := congrArg List.length e2
  rw [List.length_append] at e3
  have e4 : r = [] := List.length_eq_zero_iff.1 (by omega)
  rw [e4, List.append_nil] at e2
  exact e2.symm
theorem text_iff {s t : ByteArray} (hs : s.size ≤ 400) (ht : t.size ≤ 400) : (textB s.data.toList).take (min (textB s.data.toList).length (textB t.data.toList).length) = (textB t.data.toList).take (min (textB s.data.toList).length (textB t.data.toList).length) ↔ s = t := by
  have h1 := V.length_data s
  have h2 := V.length_data t
  constructor
  · intro h
    have : s.data.toList = t.data.toList := by
      rcases take_min h with ⟨r, hr⟩ | ⟨r, hr⟩
      · exact textB_pre (by omega) (by omega) hr
      · exact (textB_pre (by omega) (by omega) hr).symm
    rw [← V.S_of s, ← V.S_of t, this]
  · intro h; rw [h]
theorem cut0 (xs : List UInt8) (p q : Nat) : (xs.drop (0 : Int).toNat).take (min (p : Int) q - 0).toNat = xs.take (min p q) := by
  rw [show (0 : Int).toNat = 0 from rfl, List.drop_zero]; congr 1; omega

set_option maxHeartbeats 4000000 in
set_option maxRecDepth 10000 in
theorem packPrefix_walk {w : World} {n m : Int} {s t : ByteArray} (hn : n ≤ 9223372036854775807) (hm : m ≤ 9223372036854775807) :
    Meets Try.prog 4 [.int .i64 n, .int .i64 m, .agg #[.string s, .string t]] w fun r w' => r = .bool true ∧ Gr w w' := by
  have HG := V.Fr.refl [] w
  refine V.enter (n := 79) Try.func4 rfl rfl (by decide) rfl ?_
  refine V.seq ?_
  refine V.region ?_
  refine V.box rfl rfl rfl rfl ?_
  rintro k0 w1 s3 s4 G2 Fk0
  have z5 := V.Fr.size G2
  replace HG := HG.grow G2
  clear G2
  try simp only [V.cellsL, V.spliceL] at Fk0
  refine V.run T_ok 1 rfl ?_
  refine V.nil ?_
  refine V.tN ?_
  refine V.seq ?_
  refine V.seq ?_
  refine V.region ?_
  refine V.elemP T_ok rfl rfl rfl rfl rfl rfl (by first | omega | decide) (by first | omega | decide) ?_
  refine V.loadO T_ok Fk0 rfl rfl rfl rfl rfl ?_
  refine V.run T_ok 3 rfl ?_
  refine V.split (j := 4) (t := 17) rfl rfl (fun g1_4 => ?_) (fun g1_4 => ?_)
  ·
    try simp only [decide_eq_true_eq, decide_eq_false_iff_not, Bool.or_eq_true, Bool.and_eq_true, Bool.or_eq_false_iff, Bool.and_eq_false_iff, Bool.not_eq_true', Bool.not_eq_false', Int.not_lt, Int.not_le, Decidable.not_not] at g1_4
    refine V.run T_ok 5 rfl ?_
    refine V.nil ?_
    refine V.tN ?_
    refine V.condY rfl rfl ?_
    refine V.seq ?_
    refine V.region ?_
    refine V.call (alive_spec) rfl rfl rfl ?_
    rintro _ w6 ⟨rfl, G7⟩
    have z8 := V.Fr.size G7
    replace Fk0 := Fk0.gr G7
    replace HG := HG.grow G7
    clear G7
    refine V.run T_ok 1 rfl ?_
    refine V.nil ?_
    refine V.tN ?_
    refine V.ret ?_
    refine V.tR ?_
    refine V.done rfl ?_
    exact ⟨rfl, HG⟩
  ·
    try simp only [decide_eq_true_eq, decide_eq_false_iff_not, Bool.or_eq_true, Bool.and_eq_true, Bool.or_eq_false_iff, Bool.and_eq_false_iff, Bool.not_eq_true', Bool.not_eq_false', Int.not_lt, Int.not_le, Decidable.not_not] at g1_4
    refine V.yes rfl rfl rfl ?_
    refine V.elemP T_ok rfl rfl rfl rfl rfl rfl (by first | omega | decide) (by first | omega | decide) ?_
    refine V.yes rfl rfl rfl ?_
    refine V.loadO T_ok Fk0 rfl rfl rfl rfl rfl ?_
    refine V.run T_ok 3 rfl ?_
    refine V.nil ?_
    refine V.tN ?_
    refine V.condT rfl (fun h2 => ?_) (fun h2 => ?_)
    ·
      try simp only [decide_eq_true_eq, decide_eq_false_iff_not, Bool.or_eq_true, Bool.and_eq_true, Bool.or_eq_false_iff, Bool.and_eq_false_iff, Bool.not_eq_true', Bool.not_eq_false', Int.not_lt, Int.not_le, Decidable.not_not] at h2
      refine V.seq ?_
      refine V.region ?_
      refine V.call (alive_spec) rfl rfl rfl ?_
      rintro _ w9 ⟨rfl, G10⟩
      have z11 := V.Fr.size G10
      replace Fk0 := Fk0.gr G10
      replace HG := HG.grow G10
      clear G10
      refine V.run T_ok 1 rfl ?_
      refine V.nil ?_
      refine V.tN ?_
      refine V.ret ?_
      refine V.tR ?_
      refine V.done rfl ?_
      exact ⟨rfl, HG⟩
    ·
      try simp only [decide_eq_true_eq, decide_eq_false_iff_not, Bool.or_eq_true, Bool.and_eq_true, Bool.or_eq_false_iff, Bool.and_eq_false_iff, Bool.not_eq_true', Bool.not_eq_false', Int.not_lt, Int.not_le, Decidable.not_not] at h2
      refine V.skip ?_
      refine V.tN ?_
      refine V.seq ?_
      refine V.region ?_
      refine V.run T_ok 1 rfl ?_
      refine V.call (number_spec (bs := []) (nilB w1) (fun _ h => h.elim) (by simp) (by omega)) rfl rfl rfl ?_
      rintro _ w12 ⟨a1, c1, rfl, N1, G13⟩
      have z14 := V.Fr.size G13
      replace Fk0 := Fk0.gr G13
      replace HG := HG.grow G13
      clear G13
      have F1 := N1.sl
      rw [List.nil_append] at F1 ⊢
      refine V.run T_ok 1 rfl ?_
      refine V.nil ?_
      refine V.tN ?_
      refine V.seq ?_
      refine V.region ?_
      refine V.run T_ok 1 rfl ?_
      refine V.call (number_spec (bs := []) (nilB w12) (fun _ h => h.elim) (by simp) (by omega)) rfl rfl rfl ?_
      rintro _ w15 ⟨a2, c2, rfl, N2, G16⟩
      have z17 := V.Fr.size G16
      replace Fk0 := Fk0.gr G16
      replace F1 := F1.gr G16
      replace HG := HG.grow G16
      clear G16
      have F2 := N2.sl
      rw [List.nil_append] at F2 ⊢
      refine V.run T_ok 1 rfl ?_
      refine V.nil ?_
      refine V.tN ?_
      refine V.seq ?_
      refine V.region ?_
      refine V.elemP T_ok rfl rfl rfl rfl rfl rfl (by first | omega | decide) (by first | omega | decide) ?_
      refine V.loadO T_ok Fk0 rfl rfl rfl rfl rfl ?_
      refine V.call (text_spec (bs := []) (nilB w15) (fun _ h => h.elim) (by simp) (by omega)) rfl rfl rfl ?_
      rintro _ w18 ⟨a3, c3, rfl, N3, G19⟩
      have z20 := V.Fr.size G19
      replace Fk0 := Fk0.gr G19
      replace F1 := F1.gr G19
      replace F2 := F2.gr G19
      replace HG := HG.grow G19
      clear G19
      have F3 := N3.sl
      rw [List.nil_append] at F3 ⊢
      refine V.run T_ok 1 rfl ?_
      refine V.nil ?_
      refine V.tN ?_
      refine V.seq ?_
      refine V.region ?_
      refine V.elemP T_ok rfl rfl rfl rfl rfl rfl (by first | omega | decide) (by first | omega | decide) ?_
      refine V.loadO T_ok Fk0 rfl rfl rfl rfl rfl ?_
      refine V.call (text_spec (bs := []) (nilB w18) (fun _ h => h.elim) (by simp) (by omega)) rfl rfl rfl ?_
      rintro _ w21 ⟨a4, c4, rfl, N4, G22⟩
      have z23 := V.Fr.size G22
      replace Fk0 := Fk0.gr G22
      replace F1 := F1.gr G22
      replace F2 := F2.gr G22
      replace F3 := F3.gr G22
      replace HG := HG.grow G22
      clear G22
      have F4 := N4.sl
      rw [List.nil_append] at F4 ⊢
      refine V.run T_ok 1 rfl ?_
      refine V.nil ?_
      refine V.tN ?_
      refine V.seq ?_
      refine V.region ?_
      refine V.run T_ok 6 rfl ?_
      refine V.nil ?_
      refine V.tN ?_
      refine V.seq ?_
      refine V.region ?_
      refine V.run T_ok 6 rfl ?_
      refine V.nil ?_
      refine V.tN ?_
      refine V.seq ?_
      refine V.drawQ mixed (by kernel_rfl) ?_
      refine V.qcall (fun w1 g => alive_spec (w := w1)) rfl rfl rfl ?_
      refine V.qrun T_ok 1 rfl ?_
      refine V.qsplitT (j := 1) (t := 45) rfl rfl (by rfl) ?_
      refine V.qrun T_ok 2 rfl ?_
      refine V.qyes rfl rfl rfl ?_
      refine V.qcut T_ok F1 rfl rfl sz5 rfl rfl rfl rfl rfl rfl rfl (by omega) (by omega) (by omega) (fun a5 c5 F5 _ => ?_)
      refine V.qyes rfl rfl rfl ?_
      refine V.qtoStr F5 Try.underlying23 Try.underlying5 Try.underlying9 rfl rfl rfl rfl ?_
      refine V.qrun T_ok 2 rfl ?_
      refine V.qyes rfl rfl rfl ?_
      refine V.qcut T_ok F2 rfl rfl sz5 rfl rfl rfl rfl rfl rfl rfl (by omega) (by omega) (by omega) (fun a6 c6 F6 _ => ?_)
      refine V.qyes rfl rfl rfl ?_
      refine V.qtoStr F6 Try.underlying23 Try.underlying5 Try.underlying9 rfl rfl rfl rfl ?_
      refine V.qrun T_ok 9 rfl ?_
      refine V.qsplitT (j := 18) (t := 62) rfl rfl (by (simp only [beq_iff_eq]; rw [Bool.eq_iff_iff, decide_eq_true_eq, decide_eq_true_eq, V.S_inj, cut0, cut0]; exact num_iff hn hm)) ?_
      refine V.qrun T_ok 2 rfl ?_
      refine V.qyes rfl rfl rfl ?_
      refine V.qcut T_ok F3 rfl rfl sz5 rfl rfl rfl rfl rfl rfl rfl (by omega) (by omega) (by omega) (fun a7 c7 F7 _ => ?_)
      refine V.qyes rfl rfl rfl ?_
      refine V.qtoStr F7 Try.underlying23 Try.underlying5 Try.underlying9 rfl rfl rfl rfl ?_
      refine V.qrun T_ok 2 rfl ?_
      refine V.qyes rfl rfl rfl ?_
      refine V.qcut T_ok F4 rfl rfl sz5 rfl rfl rfl rfl rfl rfl rfl (by omega) (by omega) (by omega) (fun a8 c8 F8 _ => ?_)
      refine V.qyes rfl rfl rfl ?_
      refine V.qtoStr F8 Try.underlying23 Try.underlying5 Try.underlying9 rfl rfl rfl rfl ?_
      refine V.qrun T_ok 1 rfl ?_
      refine V.qyes rfl rfl rfl ?_
      refine V.qelemP T_ok rfl rfl rfl rfl rfl rfl (by first | omega | decide) (by first | omega | decide) ?_
      refine V.qyes rfl rfl rfl ?_
      refine V.qloadO T_ok Fk0 rfl rfl rfl rfl rfl ?_
      refine V.qyes rfl rfl rfl ?_
      refine V.qelemP T_ok rfl rfl rfl rfl rfl rfl (by first | omega | decide) (by first | omega | decide) ?_
      refine V.qyes rfl rfl rfl ?_
      refine V.qloadO T_ok Fk0 rfl rfl rfl rfl rfl ?_
      refine V.qrun T_ok 4 rfl ?_
      refine V.qnil ?_
      rintro w24 G25
      have z26 := V.Fr.size G25
      replace Fk0 := Fk0.gr G25
      replace F1 := F1.gr G25
      replace F2 := F2.gr G25
      replace F3 := F3.gr G25
      replace F4 := F4.gr G25
      replace F5 := F5.gr G25
      replace F6 := F6.gr G25
      replace F7 := F7.gr G25
      replace F8 := F8.gr G25
      replace HG := HG.grow G25
      clear G25
      refine V.tN ?_
      refine V.ret ?_
      refine V.done rfl ?_
      refine ⟨congrArg Value.bool ?_, HG⟩
      (simp only [beq_iff_eq]; rw [Bool.eq_iff_iff, decide_eq_true_eq, decide_eq_true_eq, V.S_inj, cut0, cut0]; exact text_iff (by omega) (by omega))

end Go.Proofs.Ytbbfjcobjbopmaa
