/- Proved here: walks: what functions of this seat's program return and what they leave of memory, each as a contract. Conditions: stated at each theorem. -/
import Derived.Test.YtbbfjcobjbopmaaH10
namespace Go.Proofs.Ytbbfjcobjbopmaa
set_option linter.unusedVariables false
set_option linter.unusedSimpArgs false
open Go
open V (Bytes Meets Env Sl Own Gr Fr Cells S)

theorem rdN_badC {cs : List UInt8} {most : Int} (h : (rdN cs most).1.2 ≠ 0) : rdN cs most = ((0, 11), cs) ∧ rdC cs most = 0 := by
  unfold rdN rdC at *
  split
  · exact ⟨rfl, rfl⟩
  · rename_i hc; rw [if_neg hc] at h; simp at h
theorem rdF_one {c : UInt8} {r : List UInt8} (h : c.toNat < 2) : rdF (c :: r) = ((decide ((c.toNat : Int) = 1), 0), r) ∧ rdC (c :: r) 1 = 1 := by
  have hd : dec (c :: r) 0 0 = (c.toNat, 1) := by
    rw [dec_cons (by omega), if_pos (by omega), if_neg (by omega)]; simp; omega
  have hc : ¬ ((dec (c :: r) 0 0).2 = 0 ∨ (1 : Int) < (dec (c :: r) 0 0).1) := by rw [hd]; simp only; omega
  refine ⟨?_, by rw [rdC, if_neg hc, hd]⟩
  rw [rdF, rdN, if_neg hc, hd]; rfl
theorem rdF_not {cs : List UInt8} (h : ∀ c r, cs = c :: r → 2 ≤ c.toNat) : rdF cs = ((false, 11), cs) ∧ rdC cs 1 = 0 := by
  have hb : (rdN cs 1).1.2 ≠ 0 := by
    intro h0
    obtain ⟨v, r, hcs, _, hm, _⟩ := rdN_ok h0
    rw [numB_lt (by omega)] at hcs
    have := h _ _ hcs
    simp at this; omega
  obtain ⟨h1, h2⟩ := rdN_badC hb
  exact ⟨by rw [rdF, h1]; rfl, h2⟩
/-- how many bytes a text has that is read -/
def rdTC (cs : List UInt8) (most : Int) : Nat := if (rdT cs most).1.2 = 0 then (dec cs 0 0).2 + (dec cs 0 0).1 else 0
theorem rdT_snd (cs : List UInt8) (most : Int) : (rdT cs most).2 = cs.drop (rdTC cs most) := by
  unfold rdTC rdT; split <;> simp
theorem rdTC_le (cs : List UInt8) (most : Int) : rdTC cs most ≤ cs.length := by
  have := dec_len cs 0 0
  unfold rdTC rdT; split
  · simp
  · simp only [if_true]; omega
theorem rdT_bad1 {cs : List UInt8} {most : Int} (h : (rdN cs most).1.2 ≠ 0) : rdT cs most = (([], 11), cs) ∧ rdTC cs most = 0 := by
  have hc : (dec cs 0 0).2 = 0 ∨ most < (dec cs 0 0).1 := by
    by_cases hc : (dec cs 0 0).2 = 0 ∨ most < (dec cs 0 0).1
    · exact hc
    · rw [rdN, if_neg hc] at h; simp at h
  have e : rdT cs most = (([], 11), cs) := by rw [rdT, if_pos (by omega)]
  exact ⟨e, by rw [rdTC, e]; rfl⟩
theorem rdN_good {cs : List UInt8} {most : Int} (h : (rdN cs most).1.2 = 0) : ¬ ((dec cs 0 0).2 = 0 ∨ most < (dec cs 0 0).1) ∧ (rdN cs most).1.1 = (dec cs 0 0).1 ∧ rdC cs most = (dec cs 0 0).2 := by
  have hc : ¬ ((dec cs 0 0).2 = 0 ∨ most < (dec cs 0 0).1) := by
    intro hc; rw [rdN, if_pos hc] at h; simp at h
  exact ⟨hc, by rw [rdN, if_neg hc], by rw [rdC, if_neg hc]⟩
theorem rdT_bad2 {cs : List UInt8} {most : Int} (h : (rdN cs most).1.2 = 0) (h2 : (cs.length : Int) - rdC cs most < (rdN cs most).1.1) : rdT cs most = (([], 11), cs) ∧ rdTC cs most = 0 := by
  obtain ⟨_, h3, h4⟩ := rdN_good h
  rw [h3, h4] at h2
  have e : rdT cs most = (([], 11), cs) := by rw [rdT, if_pos (by omega)]
  exact ⟨e, by rw [rdTC, e]; rfl⟩
theorem rdT_good {cs : List UInt8} {most : Int} (h : (rdN cs most).1.2 = 0) (h2 : (rdN cs most).1.1 ≤ (cs.length : Int) - rdC cs most) :
    rdT cs most = (((cs.drop (rdC cs most)).take (rdN cs most).1.1.toNat, 0), cs.drop (rdC cs most + (rdN cs most).1.1.toNat)) ∧ rdTC cs most = rdC cs most + (rdN cs most).1.1.toNat ∧ 0 ≤ (rdN cs most).1.1 := by
  obtain ⟨h1, h3, h4⟩ := rdN_good h
  rw [h3, h4] at h2 ⊢
  have e : rdT cs most = (((cs.drop (dec cs 0 0).2).take (dec cs 0 0).1, 0), cs.drop ((dec cs 0 0).2 + (dec cs 0 0).1)) := by rw [rdT, if_neg (by omega)]
  exact ⟨by rw [Int.toNat_natCast]; exact e, by rw [rdTC, e, Int.toNat_natCast]; rfl, by omega⟩

set_option maxHeartbeats 4000000 in
set_option maxRecDepth 10000 in
theorem ref_rflag_spec {w : World} {D : Nat → Prop} {k i : Nat} {bs : List UInt8} {bad : Bool} (R : Ref w k D bs i bad) (hk : ¬ D k) :
    Meets Try.prog 36 [.pointer (some ⟨k, 0, none⟩)] w fun r w' => r = .tuple #[.bool (rdF (bs.drop i)).1.1, .int .i64 (rdF (bs.drop i)).1.2] ∧
      Ref w' k D bs (i + rdC (bs.drop i) 1) (bad || decide ((rdF (bs.drop i)).1.2 ≠ 0)) ∧ Fr [k] w w' := by
  obtain ⟨⟨a, c, Fk, F⟩, hi⟩ := R
  have hlen := F.len63
  have HG := V.Fr.refl [k] w
  refine V.enter (n := 49) Try.func36 rfl rfl (by decide) rfl ?_
  refine V.seq ?_
  refine V.region ?_
  refine V.run T_ok 2 rfl ?_
  refine V.nil ?_
  refine V.tN ?_
  refine V.seq ?_
  refine V.seq ?_
  refine V.drawQ mixed (by kernel_rfl) ?_
  refine V.qrun T_ok 3 rfl ?_
  refine V.qloadO T_ok Fk rfl rfl rfl rfl rfl ?_
  refine V.qrun T_ok 3 rfl ?_
  refine V.qloadO T_ok Fk rfl rfl rfl rfl rfl ?_
  refine V.qrun T_ok 3 rfl ?_
  refine V.qsplit (j := 10) (t := 14) rfl rfl (fun g1_10 => ?_) (fun g1_10 => ?_)
  ·
    try simp only [decide_eq_true_eq, decide_eq_false_iff_not, Bool.or_eq_true, Bool.and_eq_true, Bool.or_eq_false_iff, Bool.and_eq_false_iff, Bool.not_eq_true', Bool.not_eq_false', Int.not_lt, Int.not_le, Decidable.not_not] at g1_10
    have hil : i < bs.length := by omega
    have hdr : bs.drop i = bs[i] :: bs.drop (i + 1) := List.drop_eq_getElem_cons hil
    refine V.qrun T_ok 3 rfl ?_
    refine V.qyes rfl rfl rfl ?_
    refine V.qloadO T_ok Fk rfl rfl rfl rfl rfl ?_
    refine V.qrun T_ok 3 rfl ?_
    refine V.qyes rfl rfl rfl ?_
    refine V.qloadO T_ok Fk rfl rfl rfl rfl rfl ?_
    refine V.qyes rfl rfl rfl ?_
    refine V.qelem T_ok F rfl rfl sz5 rfl rfl rfl rfl (by omega) (by omega) ?_
    rintro b1 o1 cs1 hx1 hb1 rfl hA1
    simp only [Int.toNat_natCast] at hA1
    refine V.qyes rfl rfl rfl ?_
    refine V.qloadA T_ok (o0 := o1) (off := 0) hA1 rfl rfl rfl rfl rfl ?_
    refine V.qrun T_ok 2 rfl ?_
    refine V.qnil ?_
    rintro w1 G2
    have z3 := V.Fr.size G2
    replace Fk := Fk.gr G2
    replace F := F.gr G2
    replace HG := HG.grow G2
    clear G2
    refine V.tN ?_
    refine V.condT rfl (fun h1 => ?_) (fun h1 => ?_)
    ·
      try simp only [decide_eq_true_eq, decide_eq_false_iff_not, Bool.or_eq_true, Bool.and_eq_true, Bool.or_eq_false_iff, Bool.and_eq_false_iff, Bool.not_eq_true', Bool.not_eq_false', Int.not_lt, Int.not_le, Decidable.not_not] at h1
      refine V.seq ?_
      refine V.region ?_
      refine V.run T_ok 3 rfl ?_
      refine V.loadO T_ok Fk rfl rfl rfl rfl rfl ?_
      first | refine V.addN rfl rfl rfl rfl rfl (by omega) (by omega) ?_ | refine V.run T_ok 1 rfl ?_
      refine V.run T_ok 2 rfl ?_
      refine V.storeO Fk rfl rfl rfl rfl sz3 rfl rfl rfl rfl ?_
      rintro w4 G5 z7 Fs6
      clear Fk
      have z8 := V.Fr.size G5
      replace F := F.mv1 G5 (by first | omega | exact fun h => h | exact ⟨by omega, fun h => h⟩ | (intro h; first | (have := hD _ h; omega)) | (refine ⟨by omega, ?_⟩; intro h; first | (have := hD _ h; omega)))
      replace HG := HG.new1 G5 (by first | (refine Or.inr ?_; omega) | (refine Or.inl ?_; simp; done))
      clear G5
      have Fk := Fs6; clear Fs6
      simp only [V.spliceL, V.cellsL] at Fk
      refine V.nil ?_
      refine V.tN ?_
      refine V.seq ?_
      refine V.drawQ mixed (by kernel_rfl) ?_
      refine V.qrun T_ok 3 rfl ?_
      refine V.qloadO T_ok Fk rfl rfl rfl rfl rfl ?_
      refine V.qrun T_ok 3 rfl ?_
      refine V.qloadO T_ok Fk rfl rfl rfl rfl rfl ?_
      first | refine V.qsubN rfl rfl rfl rfl rfl (by omega) (by omega) ?_ | refine V.qrun T_ok 1 rfl ?_
      refine V.qelem T_ok F rfl rfl sz5 rfl rfl rfl rfl (by omega) (by omega) ?_
      rintro b2 o2 cs2 hx2 hb2 rfl hA2
      simp only [show ((i : Int) + 1 - 1).toNat = i by omega] at hA2
      refine V.qloadA T_ok (o0 := o2) (off := 0) hA2 rfl rfl rfl rfl rfl ?_
      refine V.qrun T_ok 3 rfl ?_
      refine V.qnil ?_
      rintro w9 G10
      have z11 := V.Fr.size G10
      replace F := F.gr G10
      replace Fk := Fk.gr G10
      replace HG := HG.grow G10
      clear G10
      refine V.tN ?_
      refine V.ret ?_
      refine V.tR ?_
      refine V.done rfl ?_
      obtain ⟨e1, e2⟩ := rdF_one (r := bs.drop (i + 1)) (show bs[i].toNat < 2 by omega)
      rw [hdr, e1, e2]
      exact ⟨rfl, ⟨⟨a, c, by simpa using Fk, F⟩, by omega⟩, HG⟩
    ·
      try simp only [decide_eq_true_eq, decide_eq_false_iff_not, Bool.or_eq_true, Bool.and_eq_true, Bool.or_eq_false_iff, Bool.and_eq_false_iff, Bool.not_eq_true', Bool.not_eq_false', Int.not_lt, Int.not_le, Decidable.not_not] at h1
      refine V.skip ?_
      refine V.tN ?_
      refine V.seq ?_
      refine V.region ?_
      refine V.run T_ok 3 rfl ?_
      refine V.storeO Fk rfl rfl rfl rfl sz4 rfl rfl rfl rfl ?_
      rintro w12 G13 z15 Fs14
      clear Fk
      have z16 := V.Fr.size G13
      replace F := F.mv1 G13 (by first | omega | exact fun h => h | exact ⟨by omega, fun h => h⟩ | (intro h; first | (have := hD _ h; omega)) | (refine ⟨by omega, ?_⟩; intro h; first | (have := hD _ h; omega)))
      replace HG := HG.new1 G13 (by first | (refine Or.inr ?_; omega) | (refine Or.inl ?_; simp; done))
      clear G13
      have Fk := Fs14; clear Fs14
      simp only [V.spliceL, V.cellsL] at Fk
      refine V.nil ?_
      refine V.tN ?_
      refine V.seq ?_
      refine V.region ?_
      refine V.run T_ok 2 rfl ?_
      refine V.nil ?_
      refine V.tN ?_
      refine V.ret ?_
      refine V.done rfl ?_
      obtain ⟨e1, e2⟩ := rdF_not (cs := bs.drop i) (by rw [hdr]; intro c0 r0 h0; first | (cases h0; omega) | cases h0)
      rw [e1, e2]
      exact ⟨rfl, ⟨⟨a, c, by simpa using Fk, F⟩, by omega⟩, HG⟩
  ·
    try simp only [decide_eq_true_eq, decide_eq_false_iff_not, Bool.or_eq_true, Bool.and_eq_true, Bool.or_eq_false_iff, Bool.and_eq_false_iff, Bool.not_eq_true', Bool.not_eq_false', Int.not_lt, Int.not_le, Decidable.not_not] at g1_10
    have hdr : bs.drop i = [] := List.drop_of_length_le (by omega)
    refine V.qrun T_ok 12 rfl ?_
    refine V.qnil ?_
    rintro w17 G18
    have z19 := V.Fr.size G18
    replace Fk := Fk.gr G18
    replace F := F.gr G18
    replace HG := HG.grow G18
    clear G18
    refine V.tN ?_
    refine V.condN rfl rfl ?_
    refine V.skip ?_
    refine V.tN ?_
    refine V.seq ?_
    refine V.region ?_
    refine V.run T_ok 3 rfl ?_
    refine V.storeO Fk rfl rfl rfl rfl sz4 rfl rfl rfl rfl ?_
    rintro w20 G21 z23 Fs22
    clear Fk
    have z24 := V.Fr.size G21
    replace F := F.mv1 G21 (by first | omega | exact fun h => h | exact ⟨by omega, fun h => h⟩ | (intro h; first | (have := hD _ h; omega)) | (refine ⟨by omega, ?_⟩; intro h; first | (have := hD _ h; omega)))
    replace HG := HG.new1 G21 (by first | (refine Or.inr ?_; omega) | (refine Or.inl ?_; simp; done))
    clear G21
    have Fk := Fs22; clear Fs22
    simp only [V.spliceL, V.cellsL] at Fk
    refine V.nil ?_
    refine V.tN ?_
    refine V.seq ?_
    refine V.region ?_
    refine V.run T_ok 2 rfl ?_
    refine V.nil ?_
    refine V.tN ?_
    refine V.ret ?_
    refine V.done rfl ?_
    obtain ⟨e1, e2⟩ := rdF_not (cs := bs.drop i) (by rw [hdr]; intro c0 r0 h0; first | (cases h0; omega) | cases h0)
    rw [e1, e2]
    exact ⟨rfl, ⟨⟨a, c, by simpa using Fk, F⟩, by omega⟩, HG⟩

set_option maxHeartbeats 4000000 in
set_option maxRecDepth 10000 in
theorem ref_rtext_spec {w : World} {D : Nat → Prop} {k i : Nat} {bs : List UInt8} {bad : Bool} {most : Int} (R : Ref w k D bs i bad) (hk : ¬ D k) :
    Meets Try.prog 38 [.pointer (some ⟨k, 0, none⟩), .int .i64 most] w fun r w' => r = .tuple #[.string (S (rdT (bs.drop i) most).1.1), .int .i64 (rdT (bs.drop i) most).1.2] ∧
      Ref w' k D bs (i + rdTC (bs.drop i) most) (bad || decide ((rdT (bs.drop i) most).1.2 ≠ 0)) ∧ Fr [k] w w' := by
  have FR := R
  obtain ⟨⟨a, c, Fk, F⟩, hi⟩ := R
  have hlen := F.len63
  have HG := V.Fr.refl [k] w
  refine V.enter (n := 67) Try.func38 rfl rfl (by decide) rfl ?_
  refine V.seq ?_
  refine V.region ?_
  refine V.run T_ok 2 rfl ?_
  refine V.nil ?_
  refine V.tN ?_
  refine V.seq ?_
  refine V.region ?_
  refine V.run T_ok 3 rfl ?_
  refine V.loadO T_ok Fk rfl rfl rfl rfl rfl ?_
  refine V.run T_ok 1 rfl ?_
  refine V.nil ?_
  refine V.tN ?_
  refine V.seq ?_
  refine V.region ?_
  refine V.run T_ok 2 rfl ?_
  refine V.call (ref_rnumber_spec (most := most) FR hk) rfl rfl rfl ?_
  rintro _ w1 ⟨rfl, FR, G2⟩
  have z3 := V.Fr.size G2
  replace HG := HG.new1 G2 (by first | (refine Or.inr ?_; omega) | (refine Or.inl ?_; simp; done))
  clear G2
  obtain ⟨⟨a2, c2, Fk', F'⟩, hi2⟩ := FR
  have Fk := Fk'
  have Fb := F'
  clear FR
  have hrc := rdC_le (bs.drop i) most
  rw [List.length_drop] at hrc
  refine V.run T_ok 5 rfl ?_
  refine V.nil ?_
  refine V.tN ?_
  refine V.seq ?_
  refine V.seq ?_
  refine V.drawQ mixed (by kernel_rfl) ?_
  refine V.qrun T_ok 3 rfl ?_
  refine V.qsplit (j := 2) (t := 21) rfl rfl (fun g3_2 => ?_) (fun g3_2 => ?_)
  ·
    try simp only [decide_eq_true_eq, decide_eq_false_iff_not, Bool.or_eq_true, Bool.and_eq_true, Bool.or_eq_false_iff, Bool.and_eq_false_iff, Bool.not_eq_true', Bool.not_eq_false', Int.not_lt, Int.not_le, Decidable.not_not] at g3_2
    refine V.qrun T_ok 13 rfl ?_
    refine V.qnil ?_
    rintro w4 G5
    have z6 := V.Fr.size G5
    replace Fk := Fk.gr G5
    replace Fb := Fb.gr G5
    replace HG := HG.grow G5
    clear G5
    refine V.tN ?_
    refine V.condY rfl rfl ?_
    refine V.seq ?_
    refine V.region ?_
    refine V.run T_ok 4 rfl ?_
    refine V.storeO Fk rfl rfl rfl rfl sz3 rfl rfl rfl rfl ?_
    rintro w7 G8 z10 Fs9
    clear Fk
    have z11 := V.Fr.size G8
    replace Fb := Fb.mv1 G8 (by first | omega | exact fun h => h | exact ⟨by omega, fun h => h⟩ | (intro h; first | (have := hD _ h; omega)) | (refine ⟨by omega, ?_⟩; intro h; first | (have := hD _ h; omega)))
    replace HG := HG.new1 G8 (by first | (refine Or.inr ?_; omega) | (refine Or.inl ?_; simp; done))
    clear G8
    have Fk := Fs9; clear Fs9
    simp only [V.spliceL, V.cellsL] at Fk
    refine V.nil ?_
    refine V.tN ?_
    refine V.seq ?_
    refine V.region ?_
    refine V.run T_ok 3 rfl ?_
    refine V.storeO Fk rfl rfl rfl rfl sz4 rfl rfl rfl rfl ?_
    rintro w12 G13 z15 Fs14
    clear Fk
    have z16 := V.Fr.size G13
    replace Fb := Fb.mv1 G13 (by first | omega | exact fun h => h | exact ⟨by omega, fun h => h⟩ | (intro h; first | (have := hD _ h; omega)) | (refine ⟨by omega, ?_⟩; intro h; first | (have := hD _ h; omega)))
    replace HG := HG.new1 G13 (by first | (refine Or.inr ?_; omega) | (refine Or.inl ?_; simp; done))
    clear G13
    have Fk := Fs14; clear Fs14
    simp only [V.spliceL, V.cellsL] at Fk
    refine V.nil ?_
    refine V.tN ?_
    refine V.seq ?_
    refine V.region ?_
    refine V.run T_ok 2 rfl ?_
    refine V.nil ?_
    refine V.tN ?_
    refine V.ret ?_
    refine V.tR ?_
    refine V.done rfl ?_
    obtain ⟨e1, e2⟩ : rdT (bs.drop i) most = (([], 11), bs.drop i) ∧ rdTC (bs.drop i) most = 0 := by first | exact rdT_bad1 g3_2 | exact rdT_bad2 g3_2 (by rw [List.length_drop]; omega)
    rw [e1, e2]
    exact ⟨rfl, ⟨⟨a2, c2, by simpa using Fk, Fb⟩, by omega⟩, HG⟩
  ·
    try simp only [decide_eq_true_eq, decide_eq_false_iff_not, Bool.or_eq_true, Bool.and_eq_true, Bool.or_eq_false_iff, Bool.and_eq_false_iff, Bool.not_eq_true', Bool.not_eq_false', Int.not_lt, Int.not_le, Decidable.not_not] at g3_2
    refine V.qrun T_ok 4 rfl ?_
    refine V.qyes rfl rfl rfl ?_
    refine V.qloadO T_ok Fk rfl rfl rfl rfl rfl ?_
    refine V.qrun T_ok 4 rfl ?_
    refine V.qyes rfl rfl rfl ?_
    refine V.qloadO T_ok Fk rfl rfl rfl rfl rfl ?_
    refine V.qyes rfl rfl rfl ?_
    first | refine V.qsubN rfl rfl rfl rfl rfl (by omega) (by omega) ?_ | refine V.qrun T_ok 1 rfl ?_
    refine V.qrun T_ok 2 rfl ?_
    refine V.qnil ?_
    rintro w17 G18
    have z19 := V.Fr.size G18
    replace Fk := Fk.gr G18
    replace Fb := Fb.gr G18
    replace HG := HG.grow G18
    clear G18
    refine V.tN ?_
    refine V.condT rfl (fun h3 => ?_) (fun h3 => ?_)
    ·
      try simp only [decide_eq_true_eq, decide_eq_false_iff_not, Bool.or_eq_true, Bool.and_eq_true, Bool.or_eq_false_iff, Bool.and_eq_false_iff, Bool.not_eq_true', Bool.not_eq_false', Int.not_lt, Int.not_le, Decidable.not_not] at h3
      refine V.seq ?_
      refine V.region ?_
      refine V.run T_ok 4 rfl ?_
      refine V.storeO Fk rfl rfl rfl rfl sz3 rfl rfl rfl rfl ?_
      rintro w20 G21 z23 Fs22
      clear Fk
      have z24 := V.Fr.size G21
      replace Fb := Fb.mv1 G21 (by first | omega | exact fun h => h | exact ⟨by omega, fun h => h⟩ | (intro h; first | (have := hD _ h; omega)) | (refine ⟨by omega, ?_⟩; intro h; first | (have := hD _ h; omega)))
      replace HG := HG.new1 G21 (by first | (refine Or.inr ?_; omega) | (refine Or.inl ?_; simp; done))
      clear G21
      have Fk := Fs22; clear Fs22
      simp only [V.spliceL, V.cellsL] at Fk
      refine V.nil ?_
      refine V.tN ?_
      refine V.seq ?_
      refine V.region ?_
      refine V.run T_ok 3 rfl ?_
      refine V.storeO Fk rfl rfl rfl rfl sz4 rfl rfl rfl rfl ?_
      rintro w25 G26 z28 Fs27
      clear Fk
      have z29 := V.Fr.size G26
      replace Fb := Fb.mv1 G26 (by first | omega | exact fun h => h | exact ⟨by omega, fun h => h⟩ | (intro h; first | (have := hD _ h; omega)) | (refine ⟨by omega, ?_⟩; intro h; first | (have := hD _ h; omega)))
      replace HG := HG.new1 G26 (by first | (refine Or.inr ?_; omega) | (refine Or.inl ?_; simp; done))
      clear G26
      have Fk := Fs27; clear Fs27
      simp only [V.spliceL, V.cellsL] at Fk
      refine V.nil ?_
      refine V.tN ?_
      refine V.seq ?_
      refine V.region ?_
      refine V.run T_ok 2 rfl ?_
      refine V.nil ?_
      refine V.tN ?_
      refine V.ret ?_
      refine V.tR ?_
      refine V.done rfl ?_
      obtain ⟨e1, e2⟩ : rdT (bs.drop i) most = (([], 11), bs.drop i) ∧ rdTC (bs.drop i) most = 0 := by first | exact rdT_bad1 g3_2 | exact rdT_bad2 g3_2 (by rw [List.length_drop]; omega)
      rw [e1, e2]
      exact ⟨rfl, ⟨⟨a2, c2, by simpa using Fk, Fb⟩, by omega⟩, HG⟩
    ·
      try simp only [decide_eq_true_eq, decide_eq_false_iff_not, Bool.or_eq_true, Bool.and_eq_true, Bool.or_eq_false_iff, Bool.and_eq_false_iff, Bool.not_eq_true', Bool.not_eq_false', Int.not_lt, Int.not_le, Decidable.not_not] at h3
      obtain ⟨q1, q2, q3⟩ := rdT_good g3_2 (by rw [List.length_drop]; omega)
      refine V.skip ?_
      refine V.tN ?_
      refine V.seq ?_
      refine V.region ?_
      refine V.run T_ok 4 rfl ?_
      refine V.loadO T_ok Fk rfl rfl rfl rfl rfl ?_
      refine V.run T_ok 1 rfl ?_
      first | refine V.addN rfl rfl rfl rfl rfl (by omega) (by omega) ?_ | refine V.run T_ok 1 rfl ?_
      refine V.run T_ok 2 rfl ?_
      refine V.storeO Fk rfl rfl rfl rfl sz3 rfl rfl rfl rfl ?_
      rintro w30 G31 z33 Fs32
      clear Fk
      have z34 := V.Fr.size G31
      replace Fb := Fb.mv1 G31 (by first | omega | exact fun h => h | exact ⟨by omega, fun h => h⟩ | (intro h; first | (have := hD _ h; omega)) | (refine ⟨by omega, ?_⟩; intro h; first | (have := hD _ h; omega)))
      replace HG := HG.new1 G31 (by first | (refine Or.inr ?_; omega) | (refine Or.inl ?_; simp; done))
      clear G31
      have Fk := Fs32; clear Fs32
      simp only [V.spliceL, V.cellsL] at Fk
      refine V.nil ?_
      refine V.tN ?_
      refine V.seq ?_
      refine V.drawQ mixed (by kernel_rfl) ?_
      refine V.qrun T_ok 3 rfl ?_
      refine V.qloadO T_ok Fk rfl rfl rfl rfl rfl ?_
      refine V.qrun T_ok 3 rfl ?_
      refine V.qloadO T_ok Fk rfl rfl rfl rfl rfl ?_
      refine V.qrun T_ok 1 rfl ?_
      first | refine V.qsubN rfl rfl rfl rfl rfl (by omega) (by omega) ?_ | refine V.qrun T_ok 1 rfl ?_
      refine V.qrun T_ok 3 rfl ?_
      refine V.qloadO T_ok Fk rfl rfl rfl rfl rfl ?_
      refine V.qcut T_ok Fb rfl rfl sz5 rfl rfl rfl rfl rfl rfl rfl (by omega) (by omega) (by omega) (fun a3 c3 F3 _ => ?_)
      refine V.qtoStr F3 Try.underlying23 Try.underlying5 Try.underlying9 rfl rfl rfl rfl ?_
      refine V.qrun T_ok 2 rfl ?_
      refine V.qnil ?_
      rintro w35 G36
      have z37 := V.Fr.size G36
      replace Fb := Fb.gr G36
      replace Fk := Fk.gr G36
      replace F3 := F3.gr G36
      replace HG := HG.grow G36
      clear G36
      refine V.tN ?_
      refine V.ret ?_
      refine V.done rfl ?_
      have e3 : (((i + rdC (bs.drop i) most : Nat) : Int) + (rdN (bs.drop i) most).1.1 - (rdN (bs.drop i) most).1.1).toNat = i + rdC (bs.drop i) most := by omega
      have e4 : (((i + rdC (bs.drop i) most : Nat) : Int) + (rdN (bs.drop i) most).1.1 - (((i + rdC (bs.drop i) most : Nat) : Int) + (rdN (bs.drop i) most).1.1 - (rdN (bs.drop i) most).1.1)).toNat = (rdN (bs.drop i) most).1.1.toNat := by omega
      rw [q1, q2, List.drop_drop]
      refine ⟨by rw [e3, e4], ⟨⟨a2, c2, ?_, Fb⟩, by omega⟩, HG⟩
      rw [show ((i + (rdC (bs.drop i) most + (rdN (bs.drop i) most).1.1.toNat) : Nat) : Int) = ((i + rdC (bs.drop i) most : Nat) : Int) + (rdN (bs.drop i) most).1.1 by omega]
      simpa [g3_2] using Fk

end Go.Proofs.Ytbbfjcobjbopmaa
