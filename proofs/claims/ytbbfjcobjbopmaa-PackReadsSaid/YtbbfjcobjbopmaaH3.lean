/- Proved here: walks: what functions of this seat's program return and what they leave of memory, each as a contract. Conditions: stated at each theorem. -/
import Derived.Test.YtbbfjcobjbopmaaH2
namespace Go.Proofs.Ytbbfjcobjbopmaa
set_option linter.unusedVariables false
set_option linter.unusedSimpArgs false
open Go
open V (Bytes Meets Env Sl Own Gr Fr Cells S)

/-- how many bytes a number has that is read -/
def rdC (bs : List UInt8) (most : Int) : Nat := if (dec bs 0 0).2 = 0 ∨ most < (dec bs 0 0).1 then 0 else (dec bs 0 0).2
theorem rdC_le (bs : List UInt8) (most : Int) : rdC bs most ≤ bs.length := by
  have := dec_len bs 0 0
  unfold rdC; split <;> omega
theorem rdN_snd (bs : List UInt8) (most : Int) : (rdN bs most).2 = bs.drop (rdC bs most) := by
  unfold rdN rdC; split <;> simp
theorem dec_cons {c : UInt8} {cs : List UInt8} {i v : Nat} (h9 : i < 9) : dec (c :: cs) i v = if c.toNat < 128 then (if c.toNat = 0 ∧ 0 < i then (0, 0) else (v + c.toNat % 128 * 128 ^ i, i + 1)) else dec cs (i + 1) (v + c.toNat % 128 * 128 ^ i) := by
  rw [dec, if_neg (by omega)]

set_option maxHeartbeats 4000000 in
set_option maxRecDepth 10000 in
theorem ref_rnumber_spec {w : World} {D : Nat → Prop} {k i : Nat} {bs : List UInt8} {bad : Bool} {most : Int} (R : Ref w k D bs i bad) (hk : ¬ D k) :
    Meets Try.prog 34 [.pointer (some ⟨k, 0, none⟩), .int .i64 most] w fun r w' => r = .tuple #[.int .i64 (rdN (bs.drop i) most).1.1, .int .i64 (rdN (bs.drop i) most).1.2] ∧
      Ref w' k D bs (i + rdC (bs.drop i) most) (bad || decide ((rdN (bs.drop i) most).1.2 ≠ 0)) ∧ Fr [k] w w' := by
  obtain ⟨⟨a, c, Fk, F⟩, hi⟩ := R
  have hlen := F.len63
  have HG := V.Fr.refl [k] w
  refine V.enter (n := 78) Try.func34 rfl rfl (by decide) rfl ?_
  refine V.seq ?_
  refine V.region ?_
  refine V.run T_ok 2 rfl ?_
  refine V.nil ?_
  refine V.tN ?_
  refine V.seq ?_
  refine V.region ?_
  refine V.run T_ok 1 rfl ?_
  refine V.nil ?_
  refine V.tN ?_
  refine V.seq ?_
  refine V.region ?_
  refine V.run T_ok 1 rfl ?_
  refine V.nil ?_
  refine V.tN ?_
  refine V.seq ?_
  refine V.seq ?_
  refine V.region ?_
  refine V.run T_ok 1 rfl ?_
  refine V.nil ?_
  refine V.tN ?_
  refine V.block ?_
  refine V.loop (fun e w' => Fr [k] w w' ∧ ∃ v j : Nat, j ≤ 9 ∧ i + j ≤ bs.length ∧ v < 128 ^ j ∧ dec (bs.drop i) 0 0 = dec (bs.drop (i + j)) j v ∧ e 0 = .pointer (some ⟨k, 0, none⟩) ∧ e 1 = .int .i64 most ∧ e 6 = .int .i64 v ∧ e 7 = .int .i64 (128 ^ min j 8 : Nat) ∧ e 8 = .int .i64 j ∧ Cells w' k [.slice a bs.length c, .int .i64 i, .bool bad] 65 ∧ Bytes w' D a c bs) (fun e w' => 9 - (V.intOf (e 8)).toNat) ?_ ?_
  ·
    exact ⟨HG, 0, 0, by omega, by omega, by decide, rfl, rfl, rfl, rfl, rfl, rfl, Fk, F⟩
  clear Fk
  clear F
  clear HG
  rintro e w' ⟨HG, v, j, hj9, hjl, hv, hd, h0, h1, h6, h7, h8, Fk, F⟩
  have hmeas : (V.intOf (e 8)).toNat = j := by rw [h8]; simp [V.intOf]
  rw [hmeas]
  refine V.knownC (t := 0) h0 ?_
  refine V.knownC (t := 1) h1 ?_
  refine V.knownC (t := 6) h6 ?_
  refine V.knownC (t := 7) h7 ?_
  refine V.knownC (t := 8) h8 ?_
  refine V.seq ?_
  refine V.seq ?_
  refine V.drawQ mixed (by kernel_rfl) ?_
  refine V.qrun T_ok 3 rfl ?_
  refine V.qsplit (j := 2) (t := 12) rfl rfl (fun g4_2 => ?_) (fun g4_2 => ?_)
  ·
    try simp only [decide_eq_true_eq, decide_eq_false_iff_not, Bool.or_eq_true, Bool.and_eq_true, Bool.or_eq_false_iff, Bool.and_eq_false_iff, Bool.not_eq_true', Bool.not_eq_false', Int.not_lt, Int.not_le, Decidable.not_not] at g4_2
    refine V.qrun T_ok 3 rfl ?_
    refine V.qyes rfl rfl rfl ?_
    refine V.qloadO T_ok Fk rfl rfl rfl rfl rfl ?_
    refine V.qrun T_ok 1 rfl ?_
    refine V.qyes rfl rfl rfl ?_
    first | refine V.qaddN rfl rfl rfl rfl rfl (by omega) (by omega) ?_ | refine V.qrun T_ok 1 rfl ?_
    refine V.qrun T_ok 3 rfl ?_
    refine V.qyes rfl rfl rfl ?_
    refine V.qloadO T_ok Fk rfl rfl rfl rfl rfl ?_
    refine V.qrun T_ok 3 rfl ?_
    refine V.qnil ?_
    rintro w1 G2
    have z3 := V.Fr.size G2
    replace Fk := Fk.gr G2
    replace F := F.gr G2
    replace HG := HG.grow G2
    clear G2
    refine V.tN ?_
    refine V.condT rfl (fun h4 => ?_) (fun h4 => ?_)
    ·
      try simp only [decide_eq_true_eq, decide_eq_false_iff_not, Bool.or_eq_true, Bool.and_eq_true, Bool.or_eq_false_iff, Bool.and_eq_false_iff, Bool.not_eq_true', Bool.not_eq_false', Int.not_lt, Int.not_le, Decidable.not_not] at h4
      refine V.skip ?_
      refine V.tN ?_
      refine V.seq ?_
      refine V.block ?_
      refine V.seq ?_
      refine V.drawQ mixed (by kernel_rfl) ?_
      refine V.qrun T_ok 3 rfl ?_
      refine V.qloadO T_ok Fk rfl rfl rfl rfl rfl ?_
      refine V.qrun T_ok 3 rfl ?_
      refine V.qloadO T_ok Fk rfl rfl rfl rfl rfl ?_
      refine V.qrun T_ok 1 rfl ?_
      first | refine V.qaddN rfl rfl rfl rfl rfl (by omega) (by omega) ?_ | refine V.qrun T_ok 1 rfl ?_
      refine V.qelem T_ok F rfl rfl sz5 rfl rfl rfl rfl (by omega) (by omega) ?_
      rintro b o cs hx hb1 rfl hA
      generalize hch : bs[((i : Int) + j).toNat] = ch at *
      have hch2 := ch.toNat_lt
      have hdr : bs.drop (i + j) = ch :: bs.drop (i + (j + 1)) := by
        rw [List.drop_eq_getElem_cons (by omega)]
        congr 1
        try rw [← hch]
      refine V.qloadA T_ok (o0 := o) (off := 0) hA rfl rfl rfl rfl rfl ?_
      first | refine V.qcnvN T_ok rfl rfl rfl rfl rfl rfl (V.wrap_in (by omega) (by omega)) ?_ | refine V.qrun T_ok 1 rfl ?_
      have hj8 : min j 8 = j := by omega
      have hpj : (128 : Nat) ^ j ≤ 128 ^ 8 := Nat.pow_le_pow_right (by decide) (by omega)
      have hp8 : (128 : Nat) ^ 8 = 72057594037927936 := by decide
      have hml : ch.toNat % 128 * 128 ^ j ≤ 127 * 128 ^ j := Nat.mul_le_mul_right _ (by omega)
      have hlt : v + ch.toNat % 128 * 128 ^ j < 128 ^ (j + 1) := by rw [Nat.pow_succ]; omega
      have hp1 : (128 : Nat) ^ (j + 1) ≤ 128 ^ 9 := Nat.pow_le_pow_right (by decide) (by omega)
      have hp9 : (128 : Nat) ^ 9 = 9223372036854775808 := by decide
      have hp7 : 8 ≤ j ∨ (128 : Nat) ^ min j 8 ≤ 128 ^ 7 := by
        rcases Nat.lt_or_ge j 8 with h | h
        · exact .inr (Nat.pow_le_pow_right (by decide) (by omega))
        · exact .inl h
      have hpos8 : 0 < (128 : Nat) ^ min j 8 := Nat.pow_pos (by decide)
      have hp7v : (128 : Nat) ^ 7 = 562949953421312 := by decide
      have hmul : ((ch.toNat : Int) % 128) * ((128 ^ min j 8 : Nat) : Int) = ((ch.toNat % 128 * 128 ^ j : Nat) : Int) := by rw [hj8]; rfl
      have hstep : dec (bs.drop i) 0 0 = if ch.toNat < 128 then (if ch.toNat = 0 ∧ 0 < j then (0, 0) else (v + ch.toNat % 128 * 128 ^ j, j + 1)) else dec (bs.drop (i + (j + 1))) (j + 1) (v + ch.toNat % 128 * 128 ^ j) := by rw [hd, hdr, dec_cons (by omega)]
      refine V.qrun T_ok 1 rfl ?_
      refine V.qnil ?_
      rintro w4 G5
      have z6 := V.Fr.size G5
      replace Fk := Fk.gr G5
      replace F := F.gr G5
      replace HG := HG.grow G5
      clear G5
      refine V.tN ?_
      refine V.seq ?_
      refine V.region ?_
      refine V.run T_ok 2 rfl ?_
      first | refine V.remN rfl rfl rfl rfl rfl (by omega) (by omega) ?_ | refine V.run T_ok 1 rfl ?_
      refine V.run T_ok 1 rfl ?_
      first | refine V.mulN rfl rfl rfl rfl rfl (by omega) (by omega) ?_ | refine V.run T_ok 1 rfl ?_
      first | refine V.addN rfl rfl rfl rfl rfl (by omega) (by omega) ?_ | refine V.run T_ok 1 rfl ?_
      refine V.run T_ok 1 rfl ?_
      refine V.nil ?_
      refine V.tN ?_
      refine V.seq ?_
      refine V.seq ?_
      refine V.region ?_
      refine V.run T_ok 2 rfl ?_
      refine V.nil ?_
      refine V.tN ?_
      refine V.condT rfl (fun h8 => ?_) (fun h8 => ?_)
      ·
        try simp only [decide_eq_true_eq, decide_eq_false_iff_not, Bool.or_eq_true, Bool.and_eq_true, Bool.or_eq_false_iff, Bool.and_eq_false_iff, Bool.not_eq_true', Bool.not_eq_false', Int.not_lt, Int.not_le, Decidable.not_not] at h8
        refine V.seq ?_
        refine V.seq ?_
        refine V.region ?_
        refine V.run T_ok 4 rfl ?_
        refine V.split (j := 3) (t := 52) rfl rfl (fun g9_3 => ?_) (fun g9_3 => ?_)
        ·
          try simp only [decide_eq_true_eq, decide_eq_false_iff_not, Bool.or_eq_true, Bool.and_eq_true, Bool.or_eq_false_iff, Bool.and_eq_false_iff, Bool.not_eq_true', Bool.not_eq_false', Int.not_lt, Int.not_le, Decidable.not_not] at g9_3
          refine V.run T_ok 7 rfl ?_
          refine V.nil ?_
          refine V.tN ?_
          refine V.condY rfl rfl ?_
          refine V.exit ?_
          refine V.tX ?_
          refine V.tX ?_
          refine V.bX rfl ?_
          refine V.tX ?_
          refine V.tX ?_
          refine V.bE ?_
          refine V.tN ?_
          refine V.seq ?_
          refine V.region ?_
          refine V.run T_ok 3 rfl ?_
          refine V.storeO Fk rfl rfl rfl rfl sz4 rfl rfl rfl rfl ?_
          rintro w7 G8 z10 Fs9
          clear Fk
          have z11 := V.Fr.size G8
          replace F := F.mv1 G8 (by first | omega | exact fun h => h | exact ⟨by omega, fun h => h⟩ | (intro h; first | (have := hD _ h; omega)) | (refine ⟨by omega, ?_⟩; intro h; first | (have := hD _ h; omega)))
          replace HG := HG.new1 G8 (by first | (refine Or.inr ?_; omega) | (refine Or.inl ?_; simp; done))
          clear G8
          have Fk := Fs9; clear Fs9
          simp only [V.spliceL, V.cellsL] at Fk
          refine V.nil ?_
          refine V.tN ?_
          refine V.seq ?_
          refine V.region ?_
          refine V.run T_ok 2 rfl ?_
          refine V.nil ?_
          refine V.tN ?_
          refine V.ret ?_
          refine V.done rfl ?_
          have hc : (dec (bs.drop i) 0 0).2 = 0 ∨ most < (dec (bs.drop i) 0 0).1 := by
            first
              | (have h0 : dec (bs.drop i) 0 0 = (0, 0) := by
                  rw [hd]
                  rcases Nat.lt_or_ge (i + j) bs.length with h | h
                  · have : j = 9 := by omega
                    subst this; exact dec_nine _ _
                  · rw [List.drop_of_length_le h]; rfl
                 exact .inl (by rw [h0]))
              | (by_cases hz : ch.toNat = 0 ∧ 0 < j
                 · exact .inl (by rw [hstep, if_pos (by omega), if_pos hz])
                 · exact .inr (by rw [hstep, if_pos (by omega), if_neg hz]; simp only; omega))
          have hC : rdC (bs.drop i) most = 0 := by rw [rdC, if_pos hc]
          have hN : (rdN (bs.drop i) most).1 = (0, 11) := by rw [rdN, if_pos hc]
          rw [hC, hN]
          exact ⟨rfl, ⟨⟨a, c, by simpa using Fk, F⟩, by omega⟩, HG⟩
        ·
          try simp only [decide_eq_true_eq, decide_eq_false_iff_not, Bool.or_eq_true, Bool.and_eq_true, Bool.or_eq_false_iff, Bool.and_eq_false_iff, Bool.not_eq_true', Bool.not_eq_false', Int.not_lt, Int.not_le, Decidable.not_not] at g9_3
          refine V.run T_ok 3 rfl ?_
          refine V.split (j := 6) (t := 55) rfl rfl (fun g9_6 => ?_) (fun g9_6 => ?_)
          ·
            try simp only [decide_eq_true_eq, decide_eq_false_iff_not, Bool.or_eq_true, Bool.and_eq_true, Bool.or_eq_false_iff, Bool.and_eq_false_iff, Bool.not_eq_true', Bool.not_eq_false', Int.not_lt, Int.not_le, Decidable.not_not] at g9_6
            refine V.run T_ok 4 rfl ?_
            refine V.nil ?_
            refine V.tN ?_
            refine V.condT rfl (fun h15 => ?_) (fun h15 => ?_)
            ·
              try simp only [decide_eq_true_eq, decide_eq_false_iff_not, Bool.or_eq_true, Bool.and_eq_true, Bool.or_eq_false_iff, Bool.and_eq_false_iff, Bool.not_eq_true', Bool.not_eq_false', Int.not_lt, Int.not_le, Decidable.not_not] at h15
              refine V.exit ?_
              refine V.tX ?_
              refine V.tX ?_
              refine V.bX rfl ?_
              refine V.tX ?_
              refine V.tX ?_
              refine V.bE ?_
              refine V.tN ?_
              refine V.seq ?_
              refine V.region ?_
              refine V.run T_ok 3 rfl ?_
              refine V.storeO Fk rfl rfl rfl rfl sz4 rfl rfl rfl rfl ?_
              rintro w12 G13 z15 Fs14
              clear Fk
              have z16 := V.Fr.size G13
              replace F := F.mv1 G13 (by first | omega | exact fun h => h | exact ⟨by omega, fun h => h⟩ | (intro h; first | (have := hD _ h; omega)) | (refine ⟨by omega, ?_⟩; intro h; first | (have := hD _ h; omega)))
              replace HG := HG.new1 G13 (by first | (refine Or.inr ?_; omega) | (refine Or.inl ?_; simp; done))
              clear G13
              have Fk := Fs14; clear Fs14
              simp only [V.spliceL, V.cellsL] at Fk
              refine V.nil ?_
              refine V.tN ?_
              refine V.seq ?_
              refine V.region ?_
              refine V.run T_ok 2 rfl ?_
              refine V.nil ?_
              refine V.tN ?_
              refine V.ret ?_
              refine V.done rfl ?_
              have hc : (dec (bs.drop i) 0 0).2 = 0 ∨ most < (dec (bs.drop i) 0 0).1 := by
                first
                  | (have h0 : dec (bs.drop i) 0 0 = (0, 0) := by
                      rw [hd]
                      rcases Nat.lt_or_ge (i + j) bs.length with h | h
                      · have : j = 9 := by omega
                        subst this; exact dec_nine _ _
                      · rw [List.drop_of_length_le h]; rfl
                     exact .inl (by rw [h0]))
                  | (by_cases hz : ch.toNat = 0 ∧ 0 < j
                     · exact .inl (by rw [hstep, if_pos (by omega), if_pos hz])
                     · exact .inr (by rw [hstep, if_pos (by omega), if_neg hz]; simp only; omega))
              have hC : rdC (bs.drop i) most = 0 := by rw [rdC, if_pos hc]
              have hN : (rdN (bs.drop i) most).1 = (0, 11) := by rw [rdN, if_pos hc]
              rw [hC, hN]
              exact ⟨rfl, ⟨⟨a, c, by simpa using Fk, F⟩, by omega⟩, HG⟩
            ·
              try simp only [decide_eq_true_eq, decide_eq_false_iff_not, Bool.or_eq_true, Bool.and_eq_true, Bool.or_eq_false_iff, Bool.and_eq_false_iff, Bool.not_eq_true', Bool.not_eq_false', Int.not_lt, Int.not_le, Decidable.not_not] at h15
              refine V.skip ?_
              refine V.tN ?_
              refine V.seq ?_
              refine V.region ?_
              refine V.run T_ok 4 rfl ?_
              refine V.loadO T_ok Fk rfl rfl rfl rfl rfl ?_
              refine V.run T_ok 1 rfl ?_
              first | refine V.addN rfl rfl rfl rfl rfl (by omega) (by omega) ?_ | refine V.run T_ok 1 rfl ?_
              first | refine V.addN rfl rfl rfl rfl rfl (by omega) (by omega) ?_ | refine V.run T_ok 1 rfl ?_
              refine V.run T_ok 2 rfl ?_
              refine V.storeO Fk rfl rfl rfl rfl sz3 rfl rfl rfl rfl ?_
              rintro w17 G18 z20 Fs19
              clear Fk
              have z21 := V.Fr.size G18
              replace F := F.mv1 G18 (by first | omega | exact fun h => h | exact ⟨by omega, fun h => h⟩ | (intro h; first | (have := hD _ h; omega)) | (refine ⟨by omega, ?_⟩; intro h; first | (have := hD _ h; omega)))
              replace HG := HG.new1 G18 (by first | (refine Or.inr ?_; omega) | (refine Or.inl ?_; simp; done))
              clear G18
              have Fk := Fs19; clear Fs19
              simp only [V.spliceL, V.cellsL] at Fk
              refine V.nil ?_
              refine V.tN ?_
              refine V.seq ?_
              refine V.region ?_
              refine V.run T_ok 3 rfl ?_
              refine V.nil ?_
              refine V.tN ?_
              refine V.ret ?_
              refine V.tR ?_
              refine V.bR ?_
              refine V.tR ?_
              refine V.tR ?_
              refine V.bR ?_
              refine V.tR ?_
              refine V.done rfl ?_
              have hlow : ch.toNat < 128 := by omega
              have hdd : dec (bs.drop i) 0 0 = (v + ch.toNat % 128 * 128 ^ j, j + 1) := by rw [hstep, if_pos hlow, if_neg (by omega)]
              have hval : (v : Int) + ((ch.toNat : Int) % 128) * ((128 ^ min j 8 : Nat) : Int) = ((v + ch.toNat % 128 * 128 ^ j : Nat) : Int) := by rw [hmul]; omega
              have hc : ¬ ((dec (bs.drop i) 0 0).2 = 0 ∨ most < (dec (bs.drop i) 0 0).1) := by rw [hdd]; simp only; omega
              have hC : rdC (bs.drop i) most = j + 1 := by rw [rdC, if_neg hc, hdd]
              have hN : (rdN (bs.drop i) most).1 = (((v + ch.toNat % 128 * 128 ^ j : Nat) : Int), 0) := by rw [rdN, if_neg hc, hdd]
              rw [hC, hN]
              refine ⟨?_, ⟨⟨a, c, ?_, F⟩, by omega⟩, HG⟩
              · rw [← hval]
              · rw [show (bad || decide ((0 : Int) ≠ 0)) = bad by simp]
                rw [show (((i + (j + 1) : Nat)) : Int) = (i : Int) + j + 1 by omega]; exact Fk
          ·
            try simp only [decide_eq_true_eq, decide_eq_false_iff_not, Bool.or_eq_true, Bool.and_eq_true, Bool.or_eq_false_iff, Bool.and_eq_false_iff, Bool.not_eq_true', Bool.not_eq_false', Int.not_lt, Int.not_le, Decidable.not_not] at g9_6
            refine V.run T_ok 4 rfl ?_
            refine V.nil ?_
            refine V.tN ?_
            refine V.condN rfl rfl ?_
            refine V.skip ?_
            refine V.tN ?_
            refine V.seq ?_
            refine V.region ?_
            refine V.run T_ok 4 rfl ?_
            refine V.loadO T_ok Fk rfl rfl rfl rfl rfl ?_
            refine V.run T_ok 1 rfl ?_
            first | refine V.addN rfl rfl rfl rfl rfl (by omega) (by omega) ?_ | refine V.run T_ok 1 rfl ?_
            first | refine V.addN rfl rfl rfl rfl rfl (by omega) (by omega) ?_ | refine V.run T_ok 1 rfl ?_
            refine V.run T_ok 2 rfl ?_
            refine V.storeO Fk rfl rfl rfl rfl sz3 rfl rfl rfl rfl ?_
            rintro w22 G23 z25 Fs24
            clear Fk
            have z26 := V.Fr.size G23
            replace F := F.mv1 G23 (by first | omega | exact fun h => h | exact ⟨by omega, fun h => h⟩ | (intro h; first | (have := hD _ h; omega)) | (refine ⟨by omega, ?_⟩; intro h; first | (have := hD _ h; omega)))
            replace HG := HG.new1 G23 (by first | (refine Or.inr ?_; omega) | (refine Or.inl ?_; simp; done))
            clear G23
            have Fk := Fs24; clear Fs24
            simp only [V.spliceL, V.cellsL] at Fk
            refine V.nil ?_
            refine V.tN ?_
            refine V.seq ?_
            refine V.region ?_
            refine V.run T_ok 3 rfl ?_
            refine V.nil ?_
            refine V.tN ?_
            refine V.ret ?_
            refine V.tR ?_
            refine V.bR ?_
            refine V.tR ?_
            refine V.tR ?_
            refine V.bR ?_
            refine V.tR ?_
            refine V.done rfl ?_
            have hlow : ch.toNat < 128 := by omega
            have hdd : dec (bs.drop i) 0 0 = (v + ch.toNat % 128 * 128 ^ j, j + 1) := by rw [hstep, if_pos hlow, if_neg (by omega)]
            have hval : (v : Int) + ((ch.toNat : Int) % 128) * ((128 ^ min j 8 : Nat) : Int) = ((v + ch.toNat % 128 * 128 ^ j : Nat) : Int) := by rw [hmul]; omega
            have hc : ¬ ((dec (bs.drop i) 0 0).2 = 0 ∨ most < (dec (bs.drop i) 0 0).1) := by rw [hdd]; simp only; omega
            have hC : rdC (bs.drop i) most = j + 1 := by rw [rdC, if_neg hc, hdd]
            have hN : (rdN (bs.drop i) most).1 = (((v + ch.toNat % 128 * 128 ^ j : Nat) : Int), 0) := by rw [rdN, if_neg hc, hdd]
            rw [hC, hN]
            refine ⟨?_, ⟨⟨a, c, ?_, F⟩, by omega⟩, HG⟩
            · rw [← hval]
            · rw [show (bad || decide ((0 : Int) ≠ 0)) = bad by simp]
              rw [show (((i + (j + 1) : Nat)) : Int) = (i : Int) + j + 1 by omega]; exact Fk
      ·
        try simp only [decide_eq_true_eq, decide_eq_false_iff_not, Bool.or_eq_true, Bool.and_eq_true, Bool.or_eq_false_iff, Bool.and_eq_false_iff, Bool.not_eq_true', Bool.not_eq_false', Int.not_lt, Int.not_le, Decidable.not_not] at h8
        refine V.skip ?_
        refine V.tN ?_
        refine V.seq ?_
        refine V.region ?_
        refine V.run T_ok 2 rfl ?_
        refine V.nil ?_
        refine V.tN ?_
        refine V.condT rfl (fun h12 => ?_) (fun h12 => ?_)
        ·
          try simp only [decide_eq_true_eq, decide_eq_false_iff_not, Bool.or_eq_true, Bool.and_eq_true, Bool.or_eq_false_iff, Bool.and_eq_false_iff, Bool.not_eq_true', Bool.not_eq_false', Int.not_lt, Int.not_le, Decidable.not_not] at h12
          refine V.region ?_
          refine V.run T_ok 1 rfl ?_
          first | refine V.mulN rfl rfl rfl rfl rfl (by omega) (by omega) ?_ | refine V.run T_ok 1 rfl ?_
          refine V.run T_ok 1 rfl ?_
          refine V.nil ?_
          refine V.bN ?_
          refine V.tN ?_
          refine V.region ?_
          refine V.run T_ok 1 rfl ?_
          first | refine V.addN rfl rfl rfl rfl rfl (by omega) (by omega) ?_ | refine V.run T_ok 1 rfl ?_
          refine V.run T_ok 1 rfl ?_
          refine V.nil ?_
          refine V.tN ?_
          have hn128 : ¬ ch.toNat < 128 := by omega
          have e13 : j < 8 → (128 : Int) * ((128 ^ min j 8 : Nat) : Int) = ((128 ^ min (j + 1) 8 : Nat) : Int) := by
            intro h
            rw [show min (j + 1) 8 = min j 8 + 1 by omega, Nat.pow_succ, Int.natCast_mul]; exact Int.mul_comm _ _
          refine ⟨⟨HG, v + ch.toNat % 128 * 128 ^ j, j + 1, by omega, by omega, hlt, by rw [hstep, if_neg hn128], rfl, rfl, congrArg (Value.int .i64) (by omega), ?_, rfl, Fk, F⟩, ?_⟩
          · first | exact congrArg (Value.int .i64) (e13 (by omega)) | (rw [show min (j + 1) 8 = min j 8 by omega]; rfl)
          · show 9 - ((j : Int) + 1).toNat < _; omega
        ·
          try simp only [decide_eq_true_eq, decide_eq_false_iff_not, Bool.or_eq_true, Bool.and_eq_true, Bool.or_eq_false_iff, Bool.and_eq_false_iff, Bool.not_eq_true', Bool.not_eq_false', Int.not_lt, Int.not_le, Decidable.not_not] at h12
          refine V.skip ?_
          refine V.bN ?_
          refine V.tN ?_
          refine V.region ?_
          refine V.run T_ok 1 rfl ?_
          first | refine V.addN rfl rfl rfl rfl rfl (by omega) (by omega) ?_ | refine V.run T_ok 1 rfl ?_
          refine V.run T_ok 1 rfl ?_
          refine V.nil ?_
          refine V.tN ?_
          have hn128 : ¬ ch.toNat < 128 := by omega
          have e13 : j < 8 → (128 : Int) * ((128 ^ min j 8 : Nat) : Int) = ((128 ^ min (j + 1) 8 : Nat) : Int) := by
            intro h
            rw [show min (j + 1) 8 = min j 8 + 1 by omega, Nat.pow_succ, Int.natCast_mul]; exact Int.mul_comm _ _
          refine ⟨⟨HG, v + ch.toNat % 128 * 128 ^ j, j + 1, by omega, by omega, hlt, by rw [hstep, if_neg hn128], rfl, rfl, congrArg (Value.int .i64) (by omega), ?_, rfl, Fk, F⟩, ?_⟩
          · first | exact congrArg (Value.int .i64) (e13 (by omega)) | (rw [show min (j + 1) 8 = min j 8 by omega]; rfl)
          · show 9 - ((j : Int) + 1).toNat < _; omega
    ·
      try simp only [decide_eq_true_eq, decide_eq_false_iff_not, Bool.or_eq_true, Bool.and_eq_true, Bool.or_eq_false_iff, Bool.and_eq_false_iff, Bool.not_eq_true', Bool.not_eq_false', Int.not_lt, Int.not_le, Decidable.not_not] at h4
      refine V.exit ?_
      refine V.tX ?_
      refine V.tX ?_
      refine V.bE ?_
      refine V.tN ?_
      refine V.seq ?_
      refine V.region ?_
      refine V.run T_ok 3 rfl ?_
      refine V.storeO Fk rfl rfl rfl rfl sz4 rfl rfl rfl rfl ?_
      rintro w27 G28 z30 Fs29
      clear Fk
      have z31 := V.Fr.size G28
      replace F := F.mv1 G28 (by first | omega | exact fun h => h | exact ⟨by omega, fun h => h⟩ | (intro h; first | (have := hD _ h; omega)) | (refine ⟨by omega, ?_⟩; intro h; first | (have := hD _ h; omega)))
      replace HG := HG.new1 G28 (by first | (refine Or.inr ?_; omega) | (refine Or.inl ?_; simp; done))
      clear G28
      have Fk := Fs29; clear Fs29
      simp only [V.spliceL, V.cellsL] at Fk
      refine V.nil ?_
      refine V.tN ?_
      refine V.seq ?_
      refine V.region ?_
      refine V.run T_ok 2 rfl ?_
      refine V.nil ?_
      refine V.tN ?_
      refine V.ret ?_
      refine V.done rfl ?_
      have hc : (dec (bs.drop i) 0 0).2 = 0 ∨ most < (dec (bs.drop i) 0 0).1 := by
        first
          | (have h0 : dec (bs.drop i) 0 0 = (0, 0) := by
              rw [hd]
              rcases Nat.lt_or_ge (i + j) bs.length with h | h
              · have : j = 9 := by omega
                subst this; exact dec_nine _ _
              · rw [List.drop_of_length_le h]; rfl
             exact .inl (by rw [h0]))
          | (by_cases hz : ch.toNat = 0 ∧ 0 < j
             · exact .inl (by rw [hstep, if_pos (by omega), if_pos hz])
             · exact .inr (by rw [hstep, if_pos (by omega), if_neg hz]; simp only; omega))
      have hC : rdC (bs.drop i) most = 0 := by rw [rdC, if_pos hc]
      have hN : (rdN (bs.drop i) most).1 = (0, 11) := by rw [rdN, if_pos hc]
      rw [hC, hN]
      exact ⟨rfl, ⟨⟨a, c, by simpa using Fk, F⟩, by omega⟩, HG⟩
  ·
    try simp only [decide_eq_true_eq, decide_eq_false_iff_not, Bool.or_eq_true, Bool.and_eq_true, Bool.or_eq_false_iff, Bool.and_eq_false_iff, Bool.not_eq_true', Bool.not_eq_false', Int.not_lt, Int.not_le, Decidable.not_not] at g4_2
    refine V.qrun T_ok 13 rfl ?_
    refine V.qnil ?_
    rintro w32 G33
    have z34 := V.Fr.size G33
    replace Fk := Fk.gr G33
    replace F := F.gr G33
    replace HG := HG.grow G33
    clear G33
    refine V.tN ?_
    refine V.condN rfl rfl ?_
    refine V.exit ?_
    refine V.tX ?_
    refine V.tX ?_
    refine V.bE ?_
    refine V.tN ?_
    refine V.seq ?_
    refine V.region ?_
    refine V.run T_ok 3 rfl ?_
    refine V.storeO Fk rfl rfl rfl rfl sz4 rfl rfl rfl rfl ?_
    rintro w35 G36 z38 Fs37
    clear Fk
    have z39 := V.Fr.size G36
    replace F := F.mv1 G36 (by first | omega | exact fun h => h | exact ⟨by omega, fun h => h⟩ | (intro h; first | (have := hD _ h; omega)) | (refine ⟨by omega, ?_⟩; intro h; first | (have := hD _ h; omega)))
    replace HG := HG.new1 G36 (by first | (refine Or.inr ?_; omega) | (refine Or.inl ?_; simp; done))
    clear G36
    have Fk := Fs37; clear Fs37
    simp only [V.spliceL, V.cellsL] at Fk
    refine V.nil ?_
    refine V.tN ?_
    refine V.seq ?_
    refine V.region ?_
    refine V.run T_ok 2 rfl ?_
    refine V.nil ?_
    refine V.tN ?_
    refine V.ret ?_
    refine V.done rfl ?_
    have hc : (dec (bs.drop i) 0 0).2 = 0 ∨ most < (dec (bs.drop i) 0 0).1 := by
      first
        | (have h0 : dec (bs.drop i) 0 0 = (0, 0) := by
            rw [hd]
            rcases Nat.lt_or_ge (i + j) bs.length with h | h
            · have : j = 9 := by omega
              subst this; exact dec_nine _ _
            · rw [List.drop_of_length_le h]; rfl
           exact .inl (by rw [h0]))
        | (by_cases hz : ch.toNat = 0 ∧ 0 < j
           · exact .inl (by rw [hstep, if_pos (by omega), if_pos hz])
           · exact .inr (by rw [hstep, if_pos (by omega), if_neg hz]; simp only; omega))
    have hC : rdC (bs.drop i) most = 0 := by rw [rdC, if_pos hc]
    have hN : (rdN (bs.drop i) most).1 = (0, 11) := by rw [rdN, if_pos hc]
    rw [hC, hN]
    exact ⟨rfl, ⟨⟨a, c, by simpa using Fk, F⟩, by omega⟩, HG⟩

end Go.Proofs.Ytbbfjcobjbopmaa
