/- Proved here: walks: what functions of this seat's program return and what they leave of memory, each as a contract. Conditions: stated at each theorem. -/
import Derived.Test.YtbbfjcobjbopmaaH4
namespace Go.Proofs.Ytbbfjcobjbopmaa
set_option linter.unusedVariables false
set_option linter.unusedSimpArgs false
open Go
open V (Bytes Meets Env Sl Own Gr Fr Cells S)

theorem numB_mono : ∀ (v u : Nat), u ≤ v → (numB u).length ≤ (numB v).length := by
  intro v
  induction v using Nat.strongRecOn with
  | _ v ih =>
    intro u h
    by_cases h1 : u < 128
    · rw [numB_lt h1]; exact numB_pos v
    · rw [numB_ge (v := u) (by omega), numB_ge (v := v) (by omega), List.length_cons, List.length_cons]
      have := ih (v / 128) (by omega) (u / 128) (Nat.div_le_div_right h)
      omega
theorem numB_len_ge {u : Nat} (h : 128 ≤ u) : (numB u).length = (numB (u / 128)).length + 1 := by rw [numB_ge h, List.length_cons]
theorem numB_len_lt {u : Nat} (h : u < 128) : (numB u).length = 1 := by rw [numB_lt h]; rfl
theorem textB_len (s : ByteArray) : (textB s.data.toList).length = (numB s.size).length + s.size := by rw [textB, List.length_append, V.length_data]
theorem textB_drop (s : ByteArray) : ((textB s.data.toList).drop (((numB s.size).length : Nat) : Int).toNat).take ((((textB s.data.toList).length : Nat) : Int) - ((numB s.size).length : Nat)).toNat = s.data.toList := by
  rw [Int.toNat_natCast, List.take_of_length_le (by rw [List.length_drop]; omega), textB, V.length_data, List.drop_left]

set_option maxHeartbeats 4000000 in
set_option maxRecDepth 10000 in
theorem packLengths_walk {w : World} {n m : Int} {s : ByteArray} (hn : n ≤ 9223372036854775807) (hm : m ≤ 9223372036854775807) :
    Meets Try.prog 10 [.int .i64 n, .int .i64 m, .string s] w fun r w' => r = .bool true ∧ Gr w w' := by
  have HG := V.Fr.refl [] w
  refine V.enter (n := 82) Try.func10 rfl rfl (by decide) rfl ?_
  refine V.seq ?_
  refine V.region ?_
  refine V.run T_ok 1 rfl ?_
  refine V.nil ?_
  refine V.tN ?_
  refine V.seq ?_
  refine V.seq ?_
  refine V.region ?_
  refine V.run T_ok 3 rfl ?_
  refine V.nil ?_
  refine V.tN ?_
  refine V.condT rfl (fun h1 => ?_) (fun h1 => ?_)
  ·
    try simp only [decide_eq_true_eq, decide_eq_false_iff_not, Bool.or_eq_true, Bool.and_eq_true, Bool.or_eq_false_iff, Bool.and_eq_false_iff, Bool.not_eq_true', Bool.not_eq_false', Int.not_lt, Int.not_le, Decidable.not_not] at h1
    refine V.seq ?_
    refine V.region ?_
    refine V.call (alive_spec) rfl rfl rfl ?_
    rintro _ w1 ⟨rfl, G2⟩
    have z3 := V.Fr.size G2
    replace HG := HG.grow G2
    clear G2
    refine V.run T_ok 1 rfl ?_
    refine V.nil ?_
    refine V.tN ?_
    refine V.ret ?_
    refine V.tR ?_
    refine V.done rfl ?_
    exact ⟨rfl, HG⟩
  ·
    try simp only [decide_eq_true_eq, decide_eq_false_iff_not, Bool.or_eq_true, Bool.and_eq_true, Bool.or_eq_false_iff, Bool.and_eq_false_iff, Bool.not_eq_true', Bool.not_eq_false', Int.not_lt, Int.not_le, Decidable.not_not] at h1
    refine V.skip ?_
    refine V.tN ?_
    refine V.seq ?_
    refine V.region ?_
    refine V.run T_ok 1 rfl ?_
    refine V.nil ?_
    refine V.tN ?_
    refine V.seq ?_
    refine V.seq ?_
    refine V.region ?_
    refine V.run T_ok 3 rfl ?_
    refine V.nil ?_
    refine V.tN ?_
    refine V.block ?_
    have hm0 : max n 0 = ((n.toNat : Nat) : Int) := by omega
    have hl9 := numB_len9 hn
    refine V.loop (fun e w' => w' = w ∧ ∃ c u : Nat, 1 ≤ c ∧ c + (numB u).length = (numB n.toNat).length + 1 ∧ e 0 = .int .i64 n ∧ e 1 = .int .i64 m ∧ e 2 = .string s ∧ e 7 = .int .i64 c ∧ e 8 = .int .i64 u ∧ u ≤ 9223372036854775807) (fun e w' => (V.intOf (e 8)).toNat) ?_ ?_
    ·
      exact ⟨rfl, 1, n.toNat, by omega, by omega, rfl, rfl, rfl, rfl, congrArg (Value.int .i64) hm0, by omega⟩
    rintro e w' ⟨rfl, c, u, hc1, hcu, h0, h1, h2, h7, h8, hu⟩
    have hmeas : (V.intOf (e 8)).toNat = u := by rw [h8]; simp [V.intOf]
    rw [hmeas]
    have hp := numB_pos u
    refine V.knownC (t := 0) h0 ?_
    refine V.knownC (t := 1) h1 ?_
    refine V.knownC (t := 2) h2 ?_
    refine V.knownC (t := 7) h7 ?_
    refine V.knownC (t := 8) h8 ?_
    refine V.seq ?_
    refine V.seq ?_
    refine V.region ?_
    refine V.run T_ok 2 rfl ?_
    refine V.nil ?_
    refine V.tN ?_
    refine V.condT rfl (fun h5 => ?_) (fun h5 => ?_)
    ·
      try simp only [decide_eq_true_eq, decide_eq_false_iff_not, Bool.or_eq_true, Bool.and_eq_true, Bool.or_eq_false_iff, Bool.and_eq_false_iff, Bool.not_eq_true', Bool.not_eq_false', Int.not_lt, Int.not_le, Decidable.not_not] at h5
      refine V.skip ?_
      refine V.tN ?_
      refine V.seq ?_
      refine V.block ?_
      refine V.region ?_
      refine V.run T_ok 1 rfl ?_
      first | refine V.addN rfl rfl rfl rfl rfl (by omega) (by omega) ?_ | refine V.run T_ok 1 rfl ?_
      refine V.run T_ok 1 rfl ?_
      refine V.nil ?_
      refine V.bN ?_
      refine V.tN ?_
      refine V.region ?_
      refine V.run T_ok 1 rfl ?_
      first | refine V.quoN rfl rfl rfl rfl rfl (by omega) (by omega) (by omega) ?_ | refine V.run T_ok 1 rfl ?_
      refine V.run T_ok 1 rfl ?_
      refine V.nil ?_
      refine V.tN ?_
      have hg := numB_len_ge (u := u) (by omega)
      refine ⟨⟨rfl, c + 1, u / 128, by omega, by omega, rfl, rfl, rfl, rfl, rfl, by omega⟩, ?_⟩
      show ((u : Int) / 128).toNat < u; omega
    ·
      try simp only [decide_eq_true_eq, decide_eq_false_iff_not, Bool.or_eq_true, Bool.and_eq_true, Bool.or_eq_false_iff, Bool.and_eq_false_iff, Bool.not_eq_true', Bool.not_eq_false', Int.not_lt, Int.not_le, Decidable.not_not] at h5
      refine V.exit ?_
      refine V.tX ?_
      refine V.tX ?_
      refine V.bE ?_
      refine V.tN ?_
      refine V.seq ?_
      refine V.region ?_
      refine V.run T_ok 1 rfl ?_
      refine V.call (number_spec (bs := []) (nilB w') (fun _ h => h.elim) (by simp) (by omega)) rfl rfl rfl ?_
      rintro _ w4 ⟨a1, c1, rfl, N1, G5⟩
      have z6 := V.Fr.size G5
      replace HG := HG.grow G5
      clear G5
      have F1 := N1.sl
      rw [List.nil_append] at F1 ⊢
      have hcl : c = (numB n.toNat).length := by have := numB_len_lt (u := u) (by omega); omega
      refine V.run T_ok 1 rfl ?_
      refine V.nil ?_
      refine V.tN ?_
      refine V.seq ?_
      refine V.region ?_
      refine V.run T_ok 1 rfl ?_
      refine V.call (number_spec (bs := []) (nilB w4) (fun _ h => h.elim) (by simp) (by omega)) rfl rfl rfl ?_
      rintro _ w7 ⟨a2, c2, rfl, N2, G8⟩
      have z9 := V.Fr.size G8
      replace F1 := F1.gr G8
      replace HG := HG.grow G8
      clear G8
      have F2 := N2.sl
      rw [List.nil_append] at F2 ⊢
      refine V.run T_ok 1 rfl ?_
      refine V.nil ?_
      refine V.tN ?_
      refine V.seq ?_
      refine V.region ?_
      refine V.run T_ok 1 rfl ?_
      refine V.call (text_spec (bs := []) (nilB w7) (fun _ h => h.elim) (by simp) (by omega)) rfl rfl rfl ?_
      rintro _ w10 ⟨a3, c3, rfl, N3, G11⟩
      have z12 := V.Fr.size G11
      replace F1 := F1.gr G11
      replace F2 := F2.gr G11
      replace HG := HG.grow G11
      clear G11
      have F3 := N3.sl
      rw [List.nil_append] at F3 ⊢
      refine V.run T_ok 1 rfl ?_
      refine V.nil ?_
      refine V.tN ?_
      refine V.seq ?_
      refine V.region ?_
      refine V.run T_ok 2 rfl ?_
      refine V.call (number_spec (bs := []) (nilB w10) (fun _ h => h.elim) (by simp) (by omega)) rfl rfl rfl ?_
      rintro _ w13 ⟨a4, c4, rfl, N4, G14⟩
      have z15 := V.Fr.size G14
      replace F1 := F1.gr G14
      replace F2 := F2.gr G14
      replace F3 := F3.gr G14
      replace HG := HG.grow G14
      clear G14
      have F4 := N4.sl
      rw [List.nil_append] at F4 ⊢
      rw [Int.toNat_natCast] at F4 ⊢
      have hl4 := numB_len9 (v := (s.size : Int)) (by omega)
      rw [Int.toNat_natCast] at hl4
      have htl := textB_len s
      refine V.run T_ok 1 rfl ?_
      refine V.nil ?_
      refine V.tN ?_
      refine V.seq ?_
      refine V.region ?_
      refine V.call (alive_spec) rfl rfl rfl ?_
      rintro _ w16 ⟨rfl, G17⟩
      have z18 := V.Fr.size G17
      replace F1 := F1.gr G17
      replace F2 := F2.gr G17
      replace F3 := F3.gr G17
      replace F4 := F4.gr G17
      replace HG := HG.grow G17
      clear G17
      refine V.run T_ok 1 rfl ?_
      refine V.splitT (j := 1) (t := 35) rfl rfl (by rfl) ?_
      refine V.run T_ok 6 rfl ?_
      refine V.splitT (j := 7) (t := 41) rfl rfl (by (apply decide_eq_true; omega)) ?_
      refine V.run T_ok 6 rfl ?_
      refine V.split (j := 13) (t := 47) rfl rfl (fun g12_13 => ?_) (fun g12_13 => ?_)
      ·
        try simp only [decide_eq_true_eq, decide_eq_false_iff_not, Bool.or_eq_true, Bool.and_eq_true, Bool.or_eq_false_iff, Bool.and_eq_false_iff, Bool.not_eq_true', Bool.not_eq_false', Int.not_lt, Int.not_le, Decidable.not_not] at g12_13
        refine V.run T_ok 8 rfl ?_
        refine V.splitT (j := 21) (t := 55) rfl rfl (by (first | rfl | (apply decide_eq_true; have := numB_mono m.toNat n.toNat; have := numB_mono m.toNat n.toNat (by omega); omega))) ?_
        refine V.run T_ok 6 rfl ?_
        refine V.yes rfl rfl rfl ?_
        first | refine V.addN rfl rfl rfl rfl rfl (by omega) (by omega) ?_ | refine V.run T_ok 1 rfl ?_
        refine V.run T_ok 3 rfl ?_
        refine V.splitT (j := 31) (t := 65) rfl rfl (by (apply decide_eq_true; have := textB_len s; omega)) ?_
        refine V.run T_ok 3 rfl ?_
        refine V.yes rfl rfl rfl ?_
        refine V.cut T_ok F3 rfl rfl sz5 rfl rfl rfl rfl rfl rfl rfl (by omega) (by omega) (by omega) (fun a5 c5 F5 _ => ?_)
        refine V.yes rfl rfl rfl ?_
        refine V.toStr F5 Try.underlying23 Try.underlying5 Try.underlying9 rfl rfl rfl rfl ?_
        refine V.run T_ok 4 rfl ?_
        refine V.splitT (j := 40) (t := 74) rfl rfl (by (apply decide_eq_true; rw [textB_drop, V.S_of])) ?_
        refine V.run T_ok 3 rfl ?_
        refine V.yes rfl rfl rfl ?_
        refine V.call (flag_spec (bs := []) (nilB w16) (fun _ h => h.elim) (by simp)) rfl rfl rfl ?_
        rintro _ w19 ⟨a6, c6, rfl, N6, G20⟩
        have z21 := V.Fr.size G20
        replace F1 := F1.gr G20
        replace F2 := F2.gr G20
        replace F3 := F3.gr G20
        replace F4 := F4.gr G20
        replace F5 := F5.gr G20
        replace HG := HG.grow G20
        clear G20
        refine V.run T_ok 4 rfl ?_
        refine V.nil ?_
        refine V.tN ?_
        refine V.ret ?_
        refine V.done rfl ?_
        exact ⟨congrArg Value.bool (decide_eq_true (by simp [flagB])), HG⟩
      ·
        try simp only [decide_eq_true_eq, decide_eq_false_iff_not, Bool.or_eq_true, Bool.and_eq_true, Bool.or_eq_false_iff, Bool.and_eq_false_iff, Bool.not_eq_true', Bool.not_eq_false', Int.not_lt, Int.not_le, Decidable.not_not] at g12_13
        refine V.run T_ok 8 rfl ?_
        refine V.splitT (j := 21) (t := 55) rfl rfl (by (first | rfl | (apply decide_eq_true; have := numB_mono m.toNat n.toNat; have := numB_mono m.toNat n.toNat (by omega); omega))) ?_
        refine V.run T_ok 6 rfl ?_
        refine V.yes rfl rfl rfl ?_
        first | refine V.addN rfl rfl rfl rfl rfl (by omega) (by omega) ?_ | refine V.run T_ok 1 rfl ?_
        refine V.run T_ok 3 rfl ?_
        refine V.splitT (j := 31) (t := 65) rfl rfl (by (apply decide_eq_true; have := textB_len s; omega)) ?_
        refine V.run T_ok 3 rfl ?_
        refine V.yes rfl rfl rfl ?_
        refine V.cut T_ok F3 rfl rfl sz5 rfl rfl rfl rfl rfl rfl rfl (by omega) (by omega) (by omega) (fun a5 c5 F5 _ => ?_)
        refine V.yes rfl rfl rfl ?_
        refine V.toStr F5 Try.underlying23 Try.underlying5 Try.underlying9 rfl rfl rfl rfl ?_
        refine V.run T_ok 4 rfl ?_
        refine V.splitT (j := 40) (t := 74) rfl rfl (by (apply decide_eq_true; rw [textB_drop, V.S_of])) ?_
        refine V.run T_ok 3 rfl ?_
        refine V.yes rfl rfl rfl ?_
        refine V.call (flag_spec (bs := []) (nilB w16) (fun _ h => h.elim) (by simp)) rfl rfl rfl ?_
        rintro _ w22 ⟨a6, c6, rfl, N6, G23⟩
        have z24 := V.Fr.size G23
        replace F1 := F1.gr G23
        replace F2 := F2.gr G23
        replace F3 := F3.gr G23
        replace F4 := F4.gr G23
        replace F5 := F5.gr G23
        replace HG := HG.grow G23
        clear G23
        refine V.run T_ok 4 rfl ?_
        refine V.nil ?_
        refine V.tN ?_
        refine V.ret ?_
        refine V.done rfl ?_
        exact ⟨congrArg Value.bool (decide_eq_true (by simp [flagB])), HG⟩

end Go.Proofs.Ytbbfjcobjbopmaa
