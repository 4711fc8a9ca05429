/- Proved here: walks: what functions of this seat's program return and what they leave of memory, each as a contract. Conditions: stated at each theorem. -/
import Derived.Test.YtbbfjcobjbopmaaH9
namespace Go.Proofs.Ytbbfjcobjbopmaa
set_option linter.unusedVariables false
set_option linter.unusedSimpArgs false
open Go
open V (Bytes Meets Env Sl Own Gr Fr Cells S)

theorem dec_sound : ∀ (cs : List UInt8) (i acc : Nat), (dec cs i acc).2 ≠ 0 → ∃ v r, cs = numB v ++ r ∧ dec cs i acc = (acc + v * 128 ^ i, i + (numB v).length) ∧ v < 128 ^ (9 - i) ∧ (i = 0 ∨ 0 < v)
  | [], i, acc, h => by simp [dec] at h
  | c :: cs, i, acc, h => by
    by_cases h9 : 9 ≤ i
    · simp [dec, h9] at h
    · have hc := c.toNat_lt
      rw [dec_cons (by omega)] at h ⊢
      by_cases h1 : c.toNat < 128
      · rw [if_pos h1] at h ⊢
        by_cases h0 : c.toNat = 0 ∧ 0 < i
        · rw [if_pos h0] at h; simp at h
        · rw [if_neg h0]
          refine ⟨c.toNat, cs, by rw [numB_lt h1]; simp, by rw [numB_len_lt h1, Nat.mod_eq_of_lt h1], ?_, by omega⟩
          have : 128 ^ (9 - i) = 128 * 128 ^ (9 - (i + 1)) := by rw [show 9 - i = (9 - (i + 1)) + 1 by omega, Nat.pow_succ, Nat.mul_comm]
          have := Nat.pow_pos (n := 9 - (i + 1)) (show 0 < 128 by decide)
          omega
      · rw [if_neg h1] at h ⊢
        obtain ⟨v, r, hcs, hd, hv, hz⟩ := dec_sound cs (i + 1) _ h
        have hp : 128 ^ (9 - i) = 128 * 128 ^ (9 - (i + 1)) := by rw [show 9 - i = (9 - (i + 1)) + 1 by omega, Nat.pow_succ, Nat.mul_comm]
        have e1 : (c.toNat % 128 + 128 * v) % 128 = c.toNat % 128 := by omega
        have e2 : (c.toNat % 128 + 128 * v) / 128 = v := by omega
        have e3 : 128 + c.toNat % 128 = c.toNat := by omega
        have hn : numB (c.toNat % 128 + 128 * v) = c :: numB v := by
          rw [numB_ge (by omega), e1, e2, e3]; simp
        refine ⟨c.toNat % 128 + 128 * v, r, by rw [hn, hcs]; rfl, ?_, by omega, by omega⟩
        rw [hd, hn]
        refine Prod.ext ?_ ?_
        · have e4 : 128 ^ (i + 1) = 128 * 128 ^ i := by rw [Nat.pow_succ, Nat.mul_comm]
          have e5 : (c.toNat % 128 + 128 * v) * 128 ^ i = c.toNat % 128 * 128 ^ i + v * (128 * 128 ^ i) := by
            rw [Nat.add_mul]; congr 1; rw [Nat.mul_comm 128 v, Nat.mul_assoc]
          simp only [e4, e5]; omega
        · simp only [List.length_cons]; omega
theorem rdN_ok {cs : List UInt8} {most : Int} (h : (rdN cs most).1.2 = 0) : ∃ (v : Nat) (r : List UInt8), cs = numB v ++ r ∧ v ≤ 9223372036854775807 ∧ (v : Int) ≤ most ∧ rdN cs most = (((v : Int), 0), r) := by
  have hc : ¬ ((dec cs 0 0).2 = 0 ∨ most < (dec cs 0 0).1) := by
    intro hc; rw [rdN, if_pos hc] at h; simp at h
  obtain ⟨v, r, hcs, hd, hv, _⟩ := dec_sound cs 0 0 (fun h0 => hc (.inl h0))
  have hm : (v : Int) ≤ most := by rw [hd] at hc; simp at hc; omega
  refine ⟨v, r, hcs, by omega, hm, ?_⟩
  rw [hcs]; exact rdN_num (by omega) hm r
theorem rdN_bad {cs : List UInt8} {most : Int} (h : (rdN cs most).1.2 ≠ 0) : (rdN cs most).2 = cs := by
  unfold rdN at h ⊢
  split
  · rfl
  · rename_i hc; rw [if_neg hc] at h; simp at h
theorem rdF_ok {cs : List UInt8} (h : (rdF cs).1.2 = 0) : ∃ (f : Bool) (r : List UInt8), cs = flagB f ++ r ∧ rdF cs = ((f, 0), r) := by
  obtain ⟨v, r, hcs, hv, hm, hr⟩ := rdN_ok (most := 1) h
  have h2 : v = if decide (v = 1) then 1 else 0 := by
    by_cases h1 : v = 1
    · simp [h1]
    · simp [h1]; omega
  have h3 : cs = flagB (decide (v = 1)) ++ r := by rw [hcs, flagB_num, ← h2]
  exact ⟨_, r, h3, by rw [h3]; exact rdF_flag _ r⟩
theorem rdF_bad {cs : List UInt8} (h : (rdF cs).1.2 ≠ 0) : (rdF cs).2 = cs := rdN_bad (most := 1) h
theorem rdT_ok {cs : List UInt8} {most : Int} (h : (rdT cs most).1.2 = 0) : ∃ (s r : List UInt8), cs = textB s ++ r ∧ s.length ≤ 9223372036854775807 ∧ (s.length : Int) ≤ most ∧ rdT cs most = ((s, 0), r) := by
  have hc : ¬ ((dec cs 0 0).2 = 0 ∨ most < (dec cs 0 0).1 ∨ (cs.length : Int) - (dec cs 0 0).2 < (dec cs 0 0).1) := by
    intro hc; rw [rdT, if_pos hc] at h; simp at h
  obtain ⟨v, r, hcs, hd, hv, _⟩ := dec_sound cs 0 0 (fun h0 => hc (.inl h0))
  rw [hd] at hc
  simp only [Nat.zero_add, Nat.pow_zero, Nat.mul_one, not_or] at hc
  obtain ⟨_, h1, h2⟩ := hc
  have hl := congrArg List.length hcs
  rw [List.length_append] at hl
  have hlr : v ≤ r.length := by omega
  have ht : (r.take v).length = v := by rw [List.length_take]; omega
  have e : cs = textB (r.take v) ++ r.drop v := by rw [textB, ht, List.append_assoc, List.take_append_drop, hcs]
  refine ⟨r.take v, r.drop v, e, by omega, by omega, ?_⟩
  rw [e]; exact rdT_text (by omega) (by omega)
theorem rdT_bad {cs : List UInt8} {most : Int} (h : (rdT cs most).1.2 ≠ 0) : (rdT cs most).2 = cs := by
  unfold rdT at h ⊢
  split
  · rfl
  · rename_i hc; rw [if_neg hc] at h; simp at h
theorem one_cut {gs cs bs : List UInt8} (h : gs ++ cs = bs) : (bs.drop (0 : Int).toNat).take ((gs.length : Int) - 0).toNat = gs := by
  rw [← h, show (0 : Int).toNat = 0 from rfl, List.drop_zero, show ((gs.length : Int) - 0).toNat = gs.length by omega, List.take_left]

set_option maxHeartbeats 4000000 in
set_option maxRecDepth 10000 in
theorem packOne_walk {w : World} {D D0 : Nat → Prop} {c c0 : Nat} {a a0 : Option Addr} {xs : List ActV} {bs : List UInt8} (F0 : Bytes w D0 a0 c0 bs) (hD0 : ∀ k, D0 k → k < w.heap.size) (FX : Sl actC w D a c xs) (hD : ∀ k, D k → k < w.heap.size) (hok : ∀ x ∈ xs, x.ok) :
    Meets Try.prog 14 [.slice a0 bs.length c0, .slice a xs.length c] w fun r w' => r = .bool true ∧ Gr w w' := by
  have HG := V.Fr.refl [] w
  refine V.enter (n := 97) Try.func14 rfl rfl (by decide) rfl ?_
  refine V.seq ?_
  refine V.region ?_
  refine V.run T_ok 1 rfl ?_
  refine V.nil ?_
  refine V.tN ?_
  refine V.seq ?_
  refine V.seq ?_
  refine V.region ?_
  refine V.run T_ok 3 rfl ?_
  refine V.nil ?_
  refine V.tN ?_
  refine V.condT rfl (fun h1 => ?_) (fun h1 => ?_)
  ·
    try simp only [decide_eq_true_eq, decide_eq_false_iff_not, Bool.or_eq_true, Bool.and_eq_true, Bool.or_eq_false_iff, Bool.and_eq_false_iff, Bool.not_eq_true', Bool.not_eq_false', Int.not_lt, Int.not_le, Decidable.not_not] at h1
    refine V.seq ?_
    refine V.region ?_
    refine V.call (alive_spec) rfl rfl rfl ?_
    rintro _ w1 ⟨rfl, G2⟩
    have z3 := V.Fr.size G2
    replace F0 := F0.gr G2
    replace FX := FX.gr G2
    replace HG := HG.grow G2
    clear G2
    refine V.run T_ok 1 rfl ?_
    refine V.nil ?_
    refine V.tN ?_
    refine V.ret ?_
    refine V.tR ?_
    refine V.done rfl ?_
    exact ⟨rfl, HG⟩
  ·
    try simp only [decide_eq_true_eq, decide_eq_false_iff_not, Bool.or_eq_true, Bool.and_eq_true, Bool.or_eq_false_iff, Bool.and_eq_false_iff, Bool.not_eq_true', Bool.not_eq_false', Int.not_lt, Int.not_le, Decidable.not_not] at h1
    refine V.skip ?_
    refine V.tN ?_
    refine V.seq ?_
    refine V.region ?_
    refine V.run T_ok 1 rfl ?_
    refine V.call (open_spec F0 hD0 (by omega)) rfl rfl rfl ?_
    rintro _ w4 ⟨k5, rfl, hk5, FR, G5⟩
    have z6 := V.Fr.size G5
    replace F0 := F0.gr G5
    replace FX := FX.gr G5
    replace HG := HG.grow G5
    clear G5
    refine V.run T_ok 1 rfl ?_
    refine V.nil ?_
    refine V.tN ?_
    refine V.seq ?_
    refine V.region ?_
    refine V.run T_ok 1 rfl ?_
    refine V.nil ?_
    refine V.tN ?_
    refine V.seq ?_
    refine V.seq ?_
    refine V.region ?_
    refine V.run T_ok 1 rfl ?_
    refine V.nil ?_
    refine V.tN ?_
    refine V.block ?_
    obtain ⟨D5, hD5, FR⟩ : ∃ D5 : Nat → Prop, (∀ k, D5 k → k < k5) ∧ Rdr w4 k5 D5 bs := ⟨_, fun k h => h.2, FR⟩
    refine V.loop (fun e v' => Gr w v' ∧ Bytes v' D0 a0 c0 bs ∧ Sl actC v' D a c xs ∧ ∃ (i : Nat) (gs cs : List UInt8) (a6 : Option Addr) (c6 : Nat), i ≤ xs.length ∧ gs ++ cs = bs ∧ Bytes v' (fun k => k5 < k ∧ k < v'.heap.size) a6 c6 gs ∧ Rdr v' k5 D5 cs ∧ e 0 = .slice a0 bs.length c0 ∧ e 1 = .slice a xs.length c ∧ e 5 = .pointer (some ⟨k5, 0, none⟩) ∧ e 6 = .slice a6 gs.length c6 ∧ e 7 = .int .i64 i) (fun e v' => xs.length - (V.intOf (e 7)).toNat) ?_ ?_
    ·
      exact ⟨HG, F0, FX, 0, [], bs, none, 0, by omega, rfl, Sl.nil _ _ _ _ _ (Nat.zero_le _), FR, rfl, rfl, rfl, rfl, rfl⟩
    clear F0
    clear FX
    clear FR
    clear HG
    rintro e v' ⟨HG, F0, FX, i, gs, cs, a6, c6, hil, hgb, F6, FR, h0, h1, h5, h6, h7⟩
    have hmeas : (V.intOf (e 7)).toNat = i := by rw [h7]; simp [V.intOf]
    rw [hmeas]
    have hk5v := FR.lt
    have hzz := HG.size
    have hgl := congrArg List.length hgb
    rw [List.length_append] at hgl
    refine V.knownC (t := 0) h0 ?_
    refine V.knownC (t := 1) h1 ?_
    refine V.knownC (t := 5) h5 ?_
    refine V.knownC (t := 6) h6 ?_
    refine V.knownC (t := 7) h7 ?_
    refine V.seq ?_
    refine V.seq ?_
    refine V.region ?_
    refine V.run T_ok 5 rfl ?_
    refine V.andG T_ok 2 4 24 rfl rfl rfl rfl rfl rfl rfl rfl ?_
    refine V.nil ?_
    refine V.tN ?_
    refine V.condT rfl (fun h6 => ?_) (fun h6 => ?_)
    ·
      try simp only [decide_eq_true_eq, decide_eq_false_iff_not, Bool.or_eq_true, Bool.and_eq_true, Bool.or_eq_false_iff, Bool.and_eq_false_iff, Bool.not_eq_true', Bool.not_eq_false', Int.not_lt, Int.not_le, Decidable.not_not] at h6
      refine V.skip ?_
      refine V.tN ?_
      refine V.seq ?_
      refine V.block ?_
      refine V.seq ?_
      refine V.seq ?_
      refine V.region ?_
      refine V.run T_ok 2 rfl ?_
      refine V.elem T_ok FX rfl rfl sz47 rfl rfl rfl rfl (by omega) (by omega) ?_
      rintro b1 o1 cs1 hx1 hb1 rfl hA1
      refine V.run T_ok 1 rfl ?_
      refine V.loadA T_ok (o0 := o1) (off := 0) hA1 rfl rfl rfl rfl rfl ?_
      refine V.nil ?_
      refine V.tN ?_
      refine V.block ?_
      refine V.seq ?_
      refine V.region ?_
      refine V.run T_ok 2 rfl ?_
      refine V.nil ?_
      refine V.tN ?_
      refine V.condT rfl (fun h9 => ?_) (fun h9 => ?_)
      ·
        try simp only [decide_eq_true_eq, decide_eq_false_iff_not, Bool.or_eq_true, Bool.and_eq_true, Bool.or_eq_false_iff, Bool.and_eq_false_iff, Bool.not_eq_true', Bool.not_eq_false', Int.not_lt, Int.not_le, Decidable.not_not] at h9
        refine V.seq ?_
        refine V.region ?_
        refine V.run T_ok 1 rfl ?_
        refine V.call (rnumber_spec (most := 9223372036854775807) FR (fun h => by have := hD5 _ h; omega)) rfl rfl rfl ?_
        rintro _ w7 ⟨rfl, FR, G8, _⟩
        have z9 := V.Fr.size G8
        replace F0 := F0.mv1 G8 (by first | omega | exact fun h => h | exact ⟨by omega, fun h => h⟩ | (intro h; first | (have := hD _ h; omega) | (have := hD0 _ h; omega) | (have := hD5 _ h; omega)) | (refine ⟨by omega, ?_⟩; intro h; first | (have := hD _ h; omega) | (have := hD0 _ h; omega) | (have := hD5 _ h; omega)))
        replace FX := FX.mv1 G8 (by first | omega | exact fun h => h | exact ⟨by omega, fun h => h⟩ | (intro h; first | (have := hD _ h; omega) | (have := hD0 _ h; omega) | (have := hD5 _ h; omega)) | (refine ⟨by omega, ?_⟩; intro h; first | (have := hD _ h; omega) | (have := hD0 _ h; omega) | (have := hD5 _ h; omega)))
        replace F6 := F6.mv1 G8 (by first | omega | exact fun h => h | exact ⟨by omega, fun h => h⟩ | (intro h; first | (have := hD _ h; omega) | (have := hD0 _ h; omega) | (have := hD5 _ h; omega)) | (refine ⟨by omega, ?_⟩; intro h; first | (have := hD _ h; omega) | (have := hD0 _ h; omega) | (have := hD5 _ h; omega)))
        replace HG := HG.new1 G8 (by first | (refine Or.inr ?_; omega) | (refine Or.inl ?_; simp; done))
        clear G8
        refine V.run T_ok 5 rfl ?_
        refine V.nil ?_
        refine V.tN ?_
        refine V.seq ?_
        refine V.region ?_
        refine V.run T_ok 2 rfl ?_
        refine V.nil ?_
        refine V.tN ?_
        refine V.condT rfl (fun h11 => ?_) (fun h11 => ?_)
        ·
          try simp only [decide_eq_true_eq, decide_eq_false_iff_not, Bool.or_eq_true, Bool.and_eq_true, Bool.or_eq_false_iff, Bool.and_eq_false_iff, Bool.not_eq_true', Bool.not_eq_false', Int.not_lt, Int.not_le, Decidable.not_not] at h11
          obtain ⟨v, r2, hcs, hv, hvm, hr⟩ := rdN_ok h11
          rw [show (rdN cs 9223372036854775807).1.1 = (v : Int) by rw [hr]]
          rw [hr] at FR
          replace FR : Rdr w7 k5 D5 r2 := FR
          have hn9 := numB_len9 (v := (v : Int)) (by omega)
          refine V.region ?_
          refine V.run T_ok 2 rfl ?_
          refine V.call (number_spec F6 (fun k hk => by omega) (by omega) (by omega)) rfl rfl rfl ?_
          rintro _ w10 ⟨a6, c6, rfl, N6, G11⟩
          have z12 := V.Fr.size G11
          replace F0 := F0.gr G11
          replace FX := FX.gr G11
          replace F6 := F6.gr G11
          replace FR := FR.gr G11
          replace HG := HG.grow G11
          clear G11
          have F6 := N6.sl
          replace hgb : (gs ++ numB (v : Int).toNat) ++ r2 = bs := by rw [Int.toNat_natCast, List.append_assoc, ← hcs, hgb]
          replace hgl := congrArg List.length hgb
          rw [List.length_append] at hgl
          refine V.run T_ok 1 rfl ?_
          refine V.nil ?_
          refine V.bN ?_
          refine V.tN ?_
          refine V.seq ?_
          refine V.drawQ mixed (by kernel_rfl) ?_
          refine V.qrun T_ok 5 rfl ?_
          refine V.qcall (fun w1 g => V.Meets.gr' (rleft_spec (FR.gr g))) rfl rfl rfl ?_
          first | refine V.qsubN rfl rfl rfl rfl rfl (by omega) (by omega) ?_ | refine V.qrun T_ok 1 rfl ?_
          refine V.qrun T_ok 2 rfl ?_
          refine V.qsplitF (j := 8) (t := 79) rfl rfl (by (apply decide_eq_false; omega)) ?_
          refine V.qrun T_ok 7 rfl ?_
          refine V.qsplitF (j := 15) (t := 86) rfl rfl (by (apply decide_eq_false; omega)) ?_
          refine V.qrun T_ok 1 rfl ?_
          refine V.qyes rfl rfl rfl ?_
          refine V.qtoStr F6 Try.underlying23 Try.underlying5 Try.underlying9 rfl rfl rfl rfl ?_
          refine V.qrun T_ok 3 rfl ?_
          refine V.qyes rfl rfl rfl ?_
          refine V.qcut T_ok F0 rfl rfl sz5 rfl rfl rfl rfl rfl rfl rfl (by omega) (by omega) (by omega) (fun a9 c9 F9 _ => ?_)
          refine V.qyes rfl rfl rfl ?_
          refine V.qtoStr F9 Try.underlying23 Try.underlying5 Try.underlying9 rfl rfl rfl rfl ?_
          refine V.qrun T_ok 2 rfl ?_
          refine V.qnil ?_
          rintro w13 G14
          have z15 := V.Fr.size G14
          replace F0 := F0.gr G14
          replace FX := FX.gr G14
          replace F6 := F6.gr G14
          replace FR := FR.gr G14
          replace F9 := F9.gr G14
          replace HG := HG.grow G14
          clear G14
          refine V.tN ?_
          refine V.condN rfl (by (rw [one_cut hgb]; simp)) ?_
          refine V.skip ?_
          refine V.bN ?_
          refine V.tN ?_
          refine V.region ?_
          refine V.run T_ok 1 rfl ?_
          first | refine V.addN rfl rfl rfl rfl rfl (by omega) (by omega) ?_ | refine V.run T_ok 1 rfl ?_
          refine V.run T_ok 1 rfl ?_
          refine V.nil ?_
          refine V.tN ?_
          have F6' := F6.mono (D' := fun k => k5 < k ∧ k < w13.heap.size) (by intro k h; first | omega | (constructor <;> omega) | (simp only at h ⊢; omega))
          exact ⟨⟨HG, F0, FX, i + 1, _, _, _, _, by omega, hgb, F6', FR, rfl, rfl, rfl, rfl, rfl⟩, by show xs.length - ((i : Int) + 1).toNat < _; omega⟩
        ·
          try simp only [decide_eq_true_eq, decide_eq_false_iff_not, Bool.or_eq_true, Bool.and_eq_true, Bool.or_eq_false_iff, Bool.and_eq_false_iff, Bool.not_eq_true', Bool.not_eq_false', Int.not_lt, Int.not_le, Decidable.not_not] at h11
          rw [rdN_bad h11] at FR
          refine V.skip ?_
          refine V.bN ?_
          refine V.tN ?_
          refine V.seq ?_
          refine V.drawQ mixed (by kernel_rfl) ?_
          refine V.qrun T_ok 5 rfl ?_
          refine V.qcall (fun w1 g => V.Meets.gr' (rleft_spec (FR.gr g))) rfl rfl rfl ?_
          first | refine V.qsubN rfl rfl rfl rfl rfl (by omega) (by omega) ?_ | refine V.qrun T_ok 1 rfl ?_
          refine V.qrun T_ok 2 rfl ?_
          refine V.qsplitF (j := 8) (t := 79) rfl rfl (by (apply decide_eq_false; omega)) ?_
          refine V.qrun T_ok 7 rfl ?_
          refine V.qsplitF (j := 15) (t := 86) rfl rfl (by (apply decide_eq_false; omega)) ?_
          refine V.qrun T_ok 1 rfl ?_
          refine V.qyes rfl rfl rfl ?_
          refine V.qtoStr F6 Try.underlying23 Try.underlying5 Try.underlying9 rfl rfl rfl rfl ?_
          refine V.qrun T_ok 3 rfl ?_
          refine V.qyes rfl rfl rfl ?_
          refine V.qcut T_ok F0 rfl rfl sz5 rfl rfl rfl rfl rfl rfl rfl (by omega) (by omega) (by omega) (fun a9 c9 F9 _ => ?_)
          refine V.qyes rfl rfl rfl ?_
          refine V.qtoStr F9 Try.underlying23 Try.underlying5 Try.underlying9 rfl rfl rfl rfl ?_
          refine V.qrun T_ok 2 rfl ?_
          refine V.qnil ?_
          rintro w16 G17
          have z18 := V.Fr.size G17
          replace F0 := F0.gr G17
          replace FX := FX.gr G17
          replace F6 := F6.gr G17
          replace FR := FR.gr G17
          replace F9 := F9.gr G17
          replace HG := HG.grow G17
          clear G17
          refine V.tN ?_
          refine V.condN rfl (by (rw [one_cut hgb]; simp)) ?_
          refine V.skip ?_
          refine V.bN ?_
          refine V.tN ?_
          refine V.region ?_
          refine V.run T_ok 1 rfl ?_
          first | refine V.addN rfl rfl rfl rfl rfl (by omega) (by omega) ?_ | refine V.run T_ok 1 rfl ?_
          refine V.run T_ok 1 rfl ?_
          refine V.nil ?_
          refine V.tN ?_
          have F6' := F6.mono (D' := fun k => k5 < k ∧ k < w16.heap.size) (by intro k h; first | omega | (constructor <;> omega) | (simp only at h ⊢; omega))
          exact ⟨⟨HG, F0, FX, i + 1, _, _, _, _, by omega, hgb, F6', FR, rfl, rfl, rfl, rfl, rfl⟩, by show xs.length - ((i : Int) + 1).toNat < _; omega⟩
      ·
        try simp only [decide_eq_true_eq, decide_eq_false_iff_not, Bool.or_eq_true, Bool.and_eq_true, Bool.or_eq_false_iff, Bool.and_eq_false_iff, Bool.not_eq_true', Bool.not_eq_false', Int.not_lt, Int.not_le, Decidable.not_not] at h9
        refine V.seq ?_
        refine V.region ?_
        refine V.run T_ok 2 rfl ?_
        refine V.nil ?_
        refine V.tN ?_
        refine V.condT rfl (fun h13 => ?_) (fun h13 => ?_)
        ·
          try simp only [decide_eq_true_eq, decide_eq_false_iff_not, Bool.or_eq_true, Bool.and_eq_true, Bool.or_eq_false_iff, Bool.and_eq_false_iff, Bool.not_eq_true', Bool.not_eq_false', Int.not_lt, Int.not_le, Decidable.not_not] at h13
          refine V.seq ?_
          refine V.region ?_
          refine V.run T_ok 1 rfl ?_
          refine V.call (rflag_spec FR (fun h => by have := hD5 _ h; omega)) rfl rfl rfl ?_
          rintro _ w19 ⟨rfl, FR, G20, _⟩
          have z21 := V.Fr.size G20
          replace F0 := F0.mv1 G20 (by first | omega | exact fun h => h | exact ⟨by omega, fun h => h⟩ | (intro h; first | (have := hD _ h; omega) | (have := hD0 _ h; omega) | (have := hD5 _ h; omega)) | (refine ⟨by omega, ?_⟩; intro h; first | (have := hD _ h; omega) | (have := hD0 _ h; omega) | (have := hD5 _ h; omega)))
          replace FX := FX.mv1 G20 (by first | omega | exact fun h => h | exact ⟨by omega, fun h => h⟩ | (intro h; first | (have := hD _ h; omega) | (have := hD0 _ h; omega) | (have := hD5 _ h; omega)) | (refine ⟨by omega, ?_⟩; intro h; first | (have := hD _ h; omega) | (have := hD0 _ h; omega) | (have := hD5 _ h; omega)))
          replace F6 := F6.mv1 G20 (by first | omega | exact fun h => h | exact ⟨by omega, fun h => h⟩ | (intro h; first | (have := hD _ h; omega) | (have := hD0 _ h; omega) | (have := hD5 _ h; omega)) | (refine ⟨by omega, ?_⟩; intro h; first | (have := hD _ h; omega) | (have := hD0 _ h; omega) | (have := hD5 _ h; omega)))
          replace HG := HG.new1 G20 (by first | (refine Or.inr ?_; omega) | (refine Or.inl ?_; simp; done))
          clear G20
          refine V.run T_ok 5 rfl ?_
          refine V.nil ?_
          refine V.tN ?_
          refine V.seq ?_
          refine V.region ?_
          refine V.run T_ok 2 rfl ?_
          refine V.nil ?_
          refine V.tN ?_
          refine V.condT rfl (fun h15 => ?_) (fun h15 => ?_)
          ·
            try simp only [decide_eq_true_eq, decide_eq_false_iff_not, Bool.or_eq_true, Bool.and_eq_true, Bool.or_eq_false_iff, Bool.and_eq_false_iff, Bool.not_eq_true', Bool.not_eq_false', Int.not_lt, Int.not_le, Decidable.not_not] at h15
            obtain ⟨v, r2, hcs, hr⟩ := rdF_ok h15
            rw [show (rdF cs).1.1 = v by rw [hr]]
            rw [hr] at FR
            replace FR : Rdr w19 k5 D5 r2 := FR
            refine V.region ?_
            refine V.run T_ok 2 rfl ?_
            refine V.call (flag_spec F6 (fun k hk => by omega) (by omega)) rfl rfl rfl ?_
            rintro _ w22 ⟨a6, c6, rfl, N6, G23⟩
            have z24 := V.Fr.size G23
            replace F0 := F0.gr G23
            replace FX := FX.gr G23
            replace F6 := F6.gr G23
            replace FR := FR.gr G23
            replace HG := HG.grow G23
            clear G23
            have F6 := N6.sl
            replace hgb : (gs ++ flagB v) ++ r2 = bs := by rw [List.append_assoc, ← hcs, hgb]
            replace hgl := congrArg List.length hgb
            rw [List.length_append] at hgl
            refine V.run T_ok 1 rfl ?_
            refine V.nil ?_
            refine V.bN ?_
            refine V.tN ?_
            refine V.seq ?_
            refine V.drawQ mixed (by kernel_rfl) ?_
            refine V.qrun T_ok 5 rfl ?_
            refine V.qcall (fun w1 g => V.Meets.gr' (rleft_spec (FR.gr g))) rfl rfl rfl ?_
            first | refine V.qsubN rfl rfl rfl rfl rfl (by omega) (by omega) ?_ | refine V.qrun T_ok 1 rfl ?_
            refine V.qrun T_ok 2 rfl ?_
            refine V.qsplitF (j := 8) (t := 79) rfl rfl (by (apply decide_eq_false; omega)) ?_
            refine V.qrun T_ok 7 rfl ?_
            refine V.qsplitF (j := 15) (t := 86) rfl rfl (by (apply decide_eq_false; omega)) ?_
            refine V.qrun T_ok 1 rfl ?_
            refine V.qyes rfl rfl rfl ?_
            refine V.qtoStr F6 Try.underlying23 Try.underlying5 Try.underlying9 rfl rfl rfl rfl ?_
            refine V.qrun T_ok 3 rfl ?_
            refine V.qyes rfl rfl rfl ?_
            refine V.qcut T_ok F0 rfl rfl sz5 rfl rfl rfl rfl rfl rfl rfl (by omega) (by omega) (by omega) (fun a9 c9 F9 _ => ?_)
            refine V.qyes rfl rfl rfl ?_
            refine V.qtoStr F9 Try.underlying23 Try.underlying5 Try.underlying9 rfl rfl rfl rfl ?_
            refine V.qrun T_ok 2 rfl ?_
            refine V.qnil ?_
            rintro w25 G26
            have z27 := V.Fr.size G26
            replace F0 := F0.gr G26
            replace FX := FX.gr G26
            replace F6 := F6.gr G26
            replace FR := FR.gr G26
            replace F9 := F9.gr G26
            replace HG := HG.grow G26
            clear G26
            refine V.tN ?_
            refine V.condN rfl (by (rw [one_cut hgb]; simp)) ?_
            refine V.skip ?_
            refine V.bN ?_
            refine V.tN ?_
            refine V.region ?_
            refine V.run T_ok 1 rfl ?_
            first | refine V.addN rfl rfl rfl rfl rfl (by omega) (by omega) ?_ | refine V.run T_ok 1 rfl ?_
            refine V.run T_ok 1 rfl ?_
            refine V.nil ?_
            refine V.tN ?_
            have F6' := F6.mono (D' := fun k => k5 < k ∧ k < w25.heap.size) (by intro k h; first | omega | (constructor <;> omega) | (simp only at h ⊢; omega))
            exact ⟨⟨HG, F0, FX, i + 1, _, _, _, _, by omega, hgb, F6', FR, rfl, rfl, rfl, rfl, rfl⟩, by show xs.length - ((i : Int) + 1).toNat < _; omega⟩
          ·
            try simp only [decide_eq_true_eq, decide_eq_false_iff_not, Bool.or_eq_true, Bool.and_eq_true, Bool.or_eq_false_iff, Bool.and_eq_false_iff, Bool.not_eq_true', Bool.not_eq_false', Int.not_lt, Int.not_le, Decidable.not_not] at h15
            rw [rdF_bad h15] at FR
            refine V.skip ?_
            refine V.bN ?_
            refine V.tN ?_
            refine V.seq ?_
            refine V.drawQ mixed (by kernel_rfl) ?_
            refine V.qrun T_ok 5 rfl ?_
            refine V.qcall (fun w1 g => V.Meets.gr' (rleft_spec (FR.gr g))) rfl rfl rfl ?_
            first | refine V.qsubN rfl rfl rfl rfl rfl (by omega) (by omega) ?_ | refine V.qrun T_ok 1 rfl ?_
            refine V.qrun T_ok 2 rfl ?_
            refine V.qsplitF (j := 8) (t := 79) rfl rfl (by (apply decide_eq_false; omega)) ?_
            refine V.qrun T_ok 7 rfl ?_
            refine V.qsplitF (j := 15) (t := 86) rfl rfl (by (apply decide_eq_false; omega)) ?_
            refine V.qrun T_ok 1 rfl ?_
            refine V.qyes rfl rfl rfl ?_
            refine V.qtoStr F6 Try.underlying23 Try.underlying5 Try.underlying9 rfl rfl rfl rfl ?_
            refine V.qrun T_ok 3 rfl ?_
            refine V.qyes rfl rfl rfl ?_
            refine V.qcut T_ok F0 rfl rfl sz5 rfl rfl rfl rfl rfl rfl rfl (by omega) (by omega) (by omega) (fun a9 c9 F9 _ => ?_)
            refine V.qyes rfl rfl rfl ?_
            refine V.qtoStr F9 Try.underlying23 Try.underlying5 Try.underlying9 rfl rfl rfl rfl ?_
            refine V.qrun T_ok 2 rfl ?_
            refine V.qnil ?_
            rintro w28 G29
            have z30 := V.Fr.size G29
            replace F0 := F0.gr G29
            replace FX := FX.gr G29
            replace F6 := F6.gr G29
            replace FR := FR.gr G29
            replace F9 := F9.gr G29
            replace HG := HG.grow G29
            clear G29
            refine V.tN ?_
            refine V.condN rfl (by (rw [one_cut hgb]; simp)) ?_
            refine V.skip ?_
            refine V.bN ?_
            refine V.tN ?_
            refine V.region ?_
            refine V.run T_ok 1 rfl ?_
            first | refine V.addN rfl rfl rfl rfl rfl (by omega) (by omega) ?_ | refine V.run T_ok 1 rfl ?_
            refine V.run T_ok 1 rfl ?_
            refine V.nil ?_
            refine V.tN ?_
            have F6' := F6.mono (D' := fun k => k5 < k ∧ k < w28.heap.size) (by intro k h; first | omega | (constructor <;> omega) | (simp only at h ⊢; omega))
            exact ⟨⟨HG, F0, FX, i + 1, _, _, _, _, by omega, hgb, F6', FR, rfl, rfl, rfl, rfl, rfl⟩, by show xs.length - ((i : Int) + 1).toNat < _; omega⟩
        ·
          try simp only [decide_eq_true_eq, decide_eq_false_iff_not, Bool.or_eq_true, Bool.and_eq_true, Bool.or_eq_false_iff, Bool.and_eq_false_iff, Bool.not_eq_true', Bool.not_eq_false', Int.not_lt, Int.not_le, Decidable.not_not] at h13
          refine V.seq ?_
          refine V.region ?_
          refine V.run T_ok 2 rfl ?_
          refine V.nil ?_
          refine V.tN ?_
          refine V.condT rfl (fun h17 => ?_) (fun h17 => ?_)
          ·
            try simp only [decide_eq_true_eq, decide_eq_false_iff_not, Bool.or_eq_true, Bool.and_eq_true, Bool.or_eq_false_iff, Bool.and_eq_false_iff, Bool.not_eq_true', Bool.not_eq_false', Int.not_lt, Int.not_le, Decidable.not_not] at h17
            refine V.seq ?_
            refine V.region ?_
            refine V.run T_ok 1 rfl ?_
            refine V.call (rtext_spec (most := 400) FR (fun h => by have := hD5 _ h; omega)) rfl rfl rfl ?_
            rintro _ w31 ⟨rfl, FR, G32, _⟩
            have z33 := V.Fr.size G32
            replace F0 := F0.mv1 G32 (by first | omega | exact fun h => h | exact ⟨by omega, fun h => h⟩ | (intro h; first | (have := hD _ h; omega) | (have := hD0 _ h; omega) | (have := hD5 _ h; omega)) | (refine ⟨by omega, ?_⟩; intro h; first | (have := hD _ h; omega) | (have := hD0 _ h; omega) | (have := hD5 _ h; omega)))
            replace FX := FX.mv1 G32 (by first | omega | exact fun h => h | exact ⟨by omega, fun h => h⟩ | (intro h; first | (have := hD _ h; omega) | (have := hD0 _ h; omega) | (have := hD5 _ h; omega)) | (refine ⟨by omega, ?_⟩; intro h; first | (have := hD _ h; omega) | (have := hD0 _ h; omega) | (have := hD5 _ h; omega)))
            replace F6 := F6.mv1 G32 (by first | omega | exact fun h => h | exact ⟨by omega, fun h => h⟩ | (intro h; first | (have := hD _ h; omega) | (have := hD0 _ h; omega) | (have := hD5 _ h; omega)) | (refine ⟨by omega, ?_⟩; intro h; first | (have := hD _ h; omega) | (have := hD0 _ h; omega) | (have := hD5 _ h; omega)))
            replace HG := HG.new1 G32 (by first | (refine Or.inr ?_; omega) | (refine Or.inl ?_; simp; done))
            clear G32
            refine V.run T_ok 5 rfl ?_
            refine V.nil ?_
            refine V.tN ?_
            refine V.seq ?_
            refine V.region ?_
            refine V.run T_ok 2 rfl ?_
            refine V.nil ?_
            refine V.tN ?_
            refine V.condT rfl (fun h19 => ?_) (fun h19 => ?_)
            ·
              try simp only [decide_eq_true_eq, decide_eq_false_iff_not, Bool.or_eq_true, Bool.and_eq_true, Bool.or_eq_false_iff, Bool.and_eq_false_iff, Bool.not_eq_true', Bool.not_eq_false', Int.not_lt, Int.not_le, Decidable.not_not] at h19
              obtain ⟨v, r2, hcs, hv, hvm, hr⟩ := rdT_ok h19
              rw [show (rdT cs 400).1.1 = v by rw [hr]]
              rw [hr] at FR
              replace FR : Rdr w31 k5 D5 r2 := FR
              refine V.region ?_
              refine V.run T_ok 2 rfl ?_
              refine V.call (text_spec F6 (fun k hk => by omega) (by omega) (by rw [V.S_size]; omega)) rfl rfl rfl ?_
              rintro _ w34 ⟨a6, c6, rfl, N6, G35⟩
              have z36 := V.Fr.size G35
              replace F0 := F0.gr G35
              replace FX := FX.gr G35
              replace F6 := F6.gr G35
              replace FR := FR.gr G35
              replace HG := HG.grow G35
              clear G35
              have F6 := N6.sl
              replace hgb : (gs ++ textB (S v).data.toList) ++ r2 = bs := by rw [V.S_data, List.append_assoc, ← hcs, hgb]
              replace hgl := congrArg List.length hgb
              rw [List.length_append] at hgl
              refine V.run T_ok 1 rfl ?_
              refine V.nil ?_
              refine V.bN ?_
              refine V.tN ?_
              refine V.seq ?_
              refine V.drawQ mixed (by kernel_rfl) ?_
              refine V.qrun T_ok 5 rfl ?_
              refine V.qcall (fun w1 g => V.Meets.gr' (rleft_spec (FR.gr g))) rfl rfl rfl ?_
              first | refine V.qsubN rfl rfl rfl rfl rfl (by omega) (by omega) ?_ | refine V.qrun T_ok 1 rfl ?_
              refine V.qrun T_ok 2 rfl ?_
              refine V.qsplitF (j := 8) (t := 79) rfl rfl (by (apply decide_eq_false; omega)) ?_
              refine V.qrun T_ok 7 rfl ?_
              refine V.qsplitF (j := 15) (t := 86) rfl rfl (by (apply decide_eq_false; omega)) ?_
              refine V.qrun T_ok 1 rfl ?_
              refine V.qyes rfl rfl rfl ?_
              refine V.qtoStr F6 Try.underlying23 Try.underlying5 Try.underlying9 rfl rfl rfl rfl ?_
              refine V.qrun T_ok 3 rfl ?_
              refine V.qyes rfl rfl rfl ?_
              refine V.qcut T_ok F0 rfl rfl sz5 rfl rfl rfl rfl rfl rfl rfl (by omega) (by omega) (by omega) (fun a9 c9 F9 _ => ?_)
              refine V.qyes rfl rfl rfl ?_
              refine V.qtoStr F9 Try.underlying23 Try.underlying5 Try.underlying9 rfl rfl rfl rfl ?_
              refine V.qrun T_ok 2 rfl ?_
              refine V.qnil ?_
              rintro w37 G38
              have z39 := V.Fr.size G38
              replace F0 := F0.gr G38
              replace FX := FX.gr G38
              replace F6 := F6.gr G38
              replace FR := FR.gr G38
              replace F9 := F9.gr G38
              replace HG := HG.grow G38
              clear G38
              refine V.tN ?_
              refine V.condN rfl (by (rw [one_cut hgb]; simp)) ?_
              refine V.skip ?_
              refine V.bN ?_
              refine V.tN ?_
              refine V.region ?_
              refine V.run T_ok 1 rfl ?_
              first | refine V.addN rfl rfl rfl rfl rfl (by omega) (by omega) ?_ | refine V.run T_ok 1 rfl ?_
              refine V.run T_ok 1 rfl ?_
              refine V.nil ?_
              refine V.tN ?_
              have F6' := F6.mono (D' := fun k => k5 < k ∧ k < w37.heap.size) (by intro k h; first | omega | (constructor <;> omega) | (simp only at h ⊢; omega))
              exact ⟨⟨HG, F0, FX, i + 1, _, _, _, _, by omega, hgb, F6', FR, rfl, rfl, rfl, rfl, rfl⟩, by show xs.length - ((i : Int) + 1).toNat < _; omega⟩
            ·
              try simp only [decide_eq_true_eq, decide_eq_false_iff_not, Bool.or_eq_true, Bool.and_eq_true, Bool.or_eq_false_iff, Bool.and_eq_false_iff, Bool.not_eq_true', Bool.not_eq_false', Int.not_lt, Int.not_le, Decidable.not_not] at h19
              rw [rdT_bad h19] at FR
              refine V.skip ?_
              refine V.bN ?_
              refine V.tN ?_
              refine V.seq ?_
              refine V.drawQ mixed (by kernel_rfl) ?_
              refine V.qrun T_ok 5 rfl ?_
              refine V.qcall (fun w1 g => V.Meets.gr' (rleft_spec (FR.gr g))) rfl rfl rfl ?_
              first | refine V.qsubN rfl rfl rfl rfl rfl (by omega) (by omega) ?_ | refine V.qrun T_ok 1 rfl ?_
              refine V.qrun T_ok 2 rfl ?_
              refine V.qsplitF (j := 8) (t := 79) rfl rfl (by (apply decide_eq_false; omega)) ?_
              refine V.qrun T_ok 7 rfl ?_
              refine V.qsplitF (j := 15) (t := 86) rfl rfl (by (apply decide_eq_false; omega)) ?_
              refine V.qrun T_ok 1 rfl ?_
              refine V.qyes rfl rfl rfl ?_
              refine V.qtoStr F6 Try.underlying23 Try.underlying5 Try.underlying9 rfl rfl rfl rfl ?_
              refine V.qrun T_ok 3 rfl ?_
              refine V.qyes rfl rfl rfl ?_
              refine V.qcut T_ok F0 rfl rfl sz5 rfl rfl rfl rfl rfl rfl rfl (by omega) (by omega) (by omega) (fun a9 c9 F9 _ => ?_)
              refine V.qyes rfl rfl rfl ?_
              refine V.qtoStr F9 Try.underlying23 Try.underlying5 Try.underlying9 rfl rfl rfl rfl ?_
              refine V.qrun T_ok 2 rfl ?_
              refine V.qnil ?_
              rintro w40 G41
              have z42 := V.Fr.size G41
              replace F0 := F0.gr G41
              replace FX := FX.gr G41
              replace F6 := F6.gr G41
              replace FR := FR.gr G41
              replace F9 := F9.gr G41
              replace HG := HG.grow G41
              clear G41
              refine V.tN ?_
              refine V.condN rfl (by (rw [one_cut hgb]; simp)) ?_
              refine V.skip ?_
              refine V.bN ?_
              refine V.tN ?_
              refine V.region ?_
              refine V.run T_ok 1 rfl ?_
              first | refine V.addN rfl rfl rfl rfl rfl (by omega) (by omega) ?_ | refine V.run T_ok 1 rfl ?_
              refine V.run T_ok 1 rfl ?_
              refine V.nil ?_
              refine V.tN ?_
              have F6' := F6.mono (D' := fun k => k5 < k ∧ k < w40.heap.size) (by intro k h; first | omega | (constructor <;> omega) | (simp only at h ⊢; omega))
              exact ⟨⟨HG, F0, FX, i + 1, _, _, _, _, by omega, hgb, F6', FR, rfl, rfl, rfl, rfl, rfl⟩, by show xs.length - ((i : Int) + 1).toNat < _; omega⟩
          ·
            try simp only [decide_eq_true_eq, decide_eq_false_iff_not, Bool.or_eq_true, Bool.and_eq_true, Bool.or_eq_false_iff, Bool.and_eq_false_iff, Bool.not_eq_true', Bool.not_eq_false', Int.not_lt, Int.not_le, Decidable.not_not] at h17
            refine V.skip ?_
            refine V.bN ?_
            refine V.tN ?_
            refine V.seq ?_
            refine V.drawQ mixed (by kernel_rfl) ?_
            refine V.qrun T_ok 5 rfl ?_
            refine V.qcall (fun w1 g => V.Meets.gr' (rleft_spec (FR.gr g))) rfl rfl rfl ?_
            first | refine V.qsubN rfl rfl rfl rfl rfl (by omega) (by omega) ?_ | refine V.qrun T_ok 1 rfl ?_
            refine V.qrun T_ok 2 rfl ?_
            refine V.qsplitF (j := 8) (t := 79) rfl rfl (by (apply decide_eq_false; omega)) ?_
            refine V.qrun T_ok 7 rfl ?_
            refine V.qsplitF (j := 15) (t := 86) rfl rfl (by (apply decide_eq_false; omega)) ?_
            refine V.qrun T_ok 1 rfl ?_
            refine V.qyes rfl rfl rfl ?_
            refine V.qtoStr F6 Try.underlying23 Try.underlying5 Try.underlying9 rfl rfl rfl rfl ?_
            refine V.qrun T_ok 3 rfl ?_
            refine V.qyes rfl rfl rfl ?_
            refine V.qcut T_ok F0 rfl rfl sz5 rfl rfl rfl rfl rfl rfl rfl (by omega) (by omega) (by omega) (fun a9 c9 F9 _ => ?_)
            refine V.qyes rfl rfl rfl ?_
            refine V.qtoStr F9 Try.underlying23 Try.underlying5 Try.underlying9 rfl rfl rfl rfl ?_
            refine V.qrun T_ok 2 rfl ?_
            refine V.qnil ?_
            rintro w43 G44
            have z45 := V.Fr.size G44
            replace F0 := F0.gr G44
            replace FX := FX.gr G44
            replace F6 := F6.gr G44
            replace FR := FR.gr G44
            replace F9 := F9.gr G44
            replace HG := HG.grow G44
            clear G44
            refine V.tN ?_
            refine V.condN rfl (by (rw [one_cut hgb]; simp)) ?_
            refine V.skip ?_
            refine V.bN ?_
            refine V.tN ?_
            refine V.region ?_
            refine V.run T_ok 1 rfl ?_
            first | refine V.addN rfl rfl rfl rfl rfl (by omega) (by omega) ?_ | refine V.run T_ok 1 rfl ?_
            refine V.run T_ok 1 rfl ?_
            refine V.nil ?_
            refine V.tN ?_
            have F6' := F6.mono (D' := fun k => k5 < k ∧ k < w43.heap.size) (by intro k h; first | omega | (constructor <;> omega) | (simp only at h ⊢; omega))
            exact ⟨⟨HG, F0, FX, i + 1, _, _, _, _, by omega, hgb, F6', FR, rfl, rfl, rfl, rfl, rfl⟩, by show xs.length - ((i : Int) + 1).toNat < _; omega⟩
    ·
      try simp only [decide_eq_true_eq, decide_eq_false_iff_not, Bool.or_eq_true, Bool.and_eq_true, Bool.or_eq_false_iff, Bool.and_eq_false_iff, Bool.not_eq_true', Bool.not_eq_false', Int.not_lt, Int.not_le, Decidable.not_not] at h6
      refine V.exit ?_
      refine V.tX ?_
      refine V.tX ?_
      refine V.bE ?_
      refine V.tN ?_
      refine V.seq ?_
      refine V.region ?_
      refine V.call (alive_spec) rfl rfl rfl ?_
      rintro _ w46 ⟨rfl, G47⟩
      have z48 := V.Fr.size G47
      replace F0 := F0.gr G47
      replace FX := FX.gr G47
      replace F6 := F6.gr G47
      replace FR := FR.gr G47
      replace HG := HG.grow G47
      clear G47
      refine V.run T_ok 1 rfl ?_
      refine V.nil ?_
      refine V.tN ?_
      refine V.ret ?_
      refine V.done rfl ?_
      exact ⟨rfl, HG⟩

end Go.Proofs.Ytbbfjcobjbopmaa
