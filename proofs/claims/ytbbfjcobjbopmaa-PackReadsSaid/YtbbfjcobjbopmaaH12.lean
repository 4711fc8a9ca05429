/- Proved here: walks: what functions of this seat's program return and what they leave of memory, each as a contract. Conditions: stated at each theorem. -/
import Derived.Test.YtbbfjcobjbopmaaH11
namespace Go.Proofs.Ytbbfjcobjbopmaa
set_option linter.unusedVariables false
set_option linter.unusedSimpArgs false
open Go
open V (Bytes Meets Env Sl Own Gr Fr Cells S)

theorem end_iff {bs : List UInt8} {p : Nat} (hp : p ≤ bs.length) : decide ((if bs.drop p = [] then (0 : Int) else 11) = 0) = decide ((p : Int) = bs.length) := by
  by_cases h : bs.drop p = []
  · have : p = bs.length := by have h1 := congrArg List.length h; simp at h1; omega
    rw [if_pos h]; simp [this]
  · have : p ≠ bs.length := by rintro rfl; simp at h
    rw [if_neg h]; simp; omega

set_option maxHeartbeats 4000000 in
set_option maxRecDepth 10000 in
theorem packReads_walk {w : World} {D D0 : Nat → Prop} {c c0 : Nat} {a a0 : Option Addr} {xs : List ActV} {bs : List UInt8} (F0 : Bytes w D0 a0 c0 bs) (hD0 : ∀ k, D0 k → k < w.heap.size) (FX : Sl actC w D a c xs) (hD : ∀ k, D k → k < w.heap.size) (hok : ∀ x ∈ xs, x.ok) :
    Meets Try.prog 11 [.slice a0 bs.length c0, .slice a xs.length c] w fun r w' => r = .bool true ∧ Gr w w' := by
  have HG := V.Fr.refl [] w
  refine V.enter (n := 142) Try.func11 rfl rfl (by decide) rfl ?_
  refine V.seq ?_
  refine V.region ?_
  refine V.run T_ok 1 rfl ?_
  refine V.nil ?_
  refine V.tN ?_
  refine V.seq ?_
  refine V.seq ?_
  refine V.region ?_
  refine V.run T_ok 3 rfl ?_
  refine V.nil ?_
  refine V.tN ?_
  refine V.condT rfl (fun h1 => ?_) (fun h1 => ?_)
  ·
    try simp only [decide_eq_true_eq, decide_eq_false_iff_not, Bool.or_eq_true, Bool.and_eq_true, Bool.or_eq_false_iff, Bool.and_eq_false_iff, Bool.not_eq_true', Bool.not_eq_false', Int.not_lt, Int.not_le, Decidable.not_not] at h1
    refine V.seq ?_
    refine V.region ?_
    refine V.call (alive_spec) rfl rfl rfl ?_
    rintro _ w1 ⟨rfl, G2⟩
    have z3 := V.Fr.size G2
    replace F0 := F0.gr G2
    replace FX := FX.gr G2
    replace HG := HG.grow G2
    clear G2
    refine V.run T_ok 1 rfl ?_
    refine V.nil ?_
    refine V.tN ?_
    refine V.ret ?_
    refine V.tR ?_
    refine V.done rfl ?_
    exact ⟨rfl, HG⟩
  ·
    try simp only [decide_eq_true_eq, decide_eq_false_iff_not, Bool.or_eq_true, Bool.and_eq_true, Bool.or_eq_false_iff, Bool.and_eq_false_iff, Bool.not_eq_true', Bool.not_eq_false', Int.not_lt, Int.not_le, Decidable.not_not] at h1
    refine V.skip ?_
    refine V.tN ?_
    refine V.seq ?_
    refine V.region ?_
    refine V.run T_ok 1 rfl ?_
    refine V.call (open_spec F0 hD0 (by omega)) rfl rfl rfl ?_
    rintro _ w4 ⟨k5, rfl, hk5, FR, G5⟩
    have z6 := V.Fr.size G5
    replace F0 := F0.gr G5
    replace FX := FX.gr G5
    replace HG := HG.grow G5
    clear G5
    have hk5v := FR.lt
    refine V.run T_ok 1 rfl ?_
    refine V.nil ?_
    refine V.tN ?_
    refine V.seq ?_
    refine V.region ?_
    refine V.run T_ok 1 rfl ?_
    refine V.call (ref_open_spec F0) rfl rfl rfl ?_
    rintro _ w7 ⟨k6, rfl, hk6, ⟨⟨a6, c6, Fk6, Fb6⟩, hi6⟩, G8⟩
    have z9 := V.Fr.size G8
    replace F0 := F0.gr G8
    replace FX := FX.gr G8
    replace FR := FR.gr G8
    replace HG := HG.grow G8
    clear G8
    refine V.run T_ok 1 rfl ?_
    refine V.nil ?_
    refine V.tN ?_
    refine V.seq ?_
    refine V.seq ?_
    refine V.region ?_
    refine V.run T_ok 1 rfl ?_
    refine V.nil ?_
    refine V.tN ?_
    refine V.block ?_
    obtain ⟨D5, hD5, FR⟩ : ∃ D5 : Nat → Prop, (∀ k, D5 k → k < k5) ∧ Rdr w7 k5 D5 bs := ⟨_, fun k h => h.2, FR⟩
    refine V.loop (fun e v' => Gr w v' ∧ Bytes v' D0 a0 c0 bs ∧ Sl actC v' D a c xs ∧ ∃ (j i : Nat) (bad : Bool), j ≤ xs.length ∧ Rdr v' k5 D5 (bs.drop i) ∧ Ref v' k6 D0 bs i bad ∧ e 0 = .slice a0 bs.length c0 ∧ e 1 = .slice a xs.length c ∧ e 5 = .pointer (some ⟨k5, 0, none⟩) ∧ e 6 = .pointer (some ⟨k6, 0, none⟩) ∧ e 7 = .int .i64 j) (fun e v' => xs.length - (V.intOf (e 7)).toNat) ?_ ?_
    ·
      exact ⟨HG, F0, FX, 0, 0, false, by omega, FR, ⟨⟨_, _, Fk6, Fb6⟩, hi6⟩, rfl, rfl, rfl, rfl, rfl⟩
    clear F0
    clear FX
    clear FR
    clear HG
    clear Fk6
    clear Fb6
    rintro e v' ⟨HG, F0, FX, j, i, bad, hjl, FR, ⟨⟨a6, c6, Fk6, Fb6⟩, hi6⟩, h0, h1, h5, h6, h7⟩
    have hmeas : (V.intOf (e 7)).toNat = j := by rw [h7]; simp [V.intOf]
    rw [hmeas]
    have hk6v := Fk6.lt
    have hlen := F0.len63
    refine V.knownC (t := 0) h0 ?_
    refine V.knownC (t := 1) h1 ?_
    refine V.knownC (t := 5) h5 ?_
    refine V.knownC (t := 6) h6 ?_
    refine V.knownC (t := 7) h7 ?_
    refine V.seq ?_
    refine V.seq ?_
    refine V.region ?_
    refine V.run T_ok 5 rfl ?_
    refine V.andG T_ok 2 4 34 rfl rfl rfl rfl rfl rfl rfl rfl ?_
    refine V.nil ?_
    refine V.tN ?_
    refine V.condT rfl (fun h6 => ?_) (fun h6 => ?_)
    ·
      try simp only [decide_eq_true_eq, decide_eq_false_iff_not, Bool.or_eq_true, Bool.and_eq_true, Bool.or_eq_false_iff, Bool.and_eq_false_iff, Bool.not_eq_true', Bool.not_eq_false', Int.not_lt, Int.not_le, Decidable.not_not] at h6
      refine V.skip ?_
      refine V.tN ?_
      refine V.seq ?_
      refine V.block ?_
      refine V.seq ?_
      refine V.region ?_
      refine V.run T_ok 2 rfl ?_
      refine V.elem T_ok FX rfl rfl sz47 rfl rfl rfl rfl (by omega) (by omega) ?_
      rintro b1 o1 cs1 hx1 hb1 rfl hA1
      obtain ⟨x, hxe⟩ : ∃ x, xs[(j : Int).toNat] = x := ⟨_, rfl⟩
      rw [hxe] at hA1
      refine V.loadA T_ok (o0 := o1) (off := 0) hA1 rfl rfl rfl rfl rfl ?_
      refine V.alloc zero47 rfl rfl rfl ?_
      rintro k8 w10 s12 s13 G11 Fk8
      have z14 := V.Fr.size G11
      replace F0 := F0.gr G11
      replace FX := FX.gr G11
      replace FR := FR.gr G11
      replace Fk6 := Fk6.gr G11
      replace Fb6 := Fb6.gr G11
      replace HG := HG.grow G11
      clear G11
      try simp only [V.cellsL, V.spliceL] at Fk8
      refine V.storeO Fk8 rfl rfl rfl rfl sz47 rfl rfl rfl rfl ?_
      rintro w15 G16 z18 Fs17
      clear Fk8
      have z19 := V.Fr.size G16
      replace F0 := F0.mv1 G16 (by first | omega | exact fun h => h | exact ⟨by omega, fun h => h⟩ | (intro h; first | (have := hD _ h; omega) | (have := hD0 _ h; omega) | (have := hD5 _ h; omega)) | (refine ⟨by omega, ?_⟩; intro h; first | (have := hD _ h; omega) | (have := hD0 _ h; omega) | (have := hD5 _ h; omega)))
      replace FX := FX.mv1 G16 (by first | omega | exact fun h => h | exact ⟨by omega, fun h => h⟩ | (intro h; first | (have := hD _ h; omega) | (have := hD0 _ h; omega) | (have := hD5 _ h; omega)) | (refine ⟨by omega, ?_⟩; intro h; first | (have := hD _ h; omega) | (have := hD0 _ h; omega) | (have := hD5 _ h; omega)))
      replace FR := FR.mv1 G16 (by first | omega | exact fun h => h | exact ⟨by omega, fun h => h⟩ | (intro h; first | (have := hD _ h; omega) | (have := hD0 _ h; omega) | (have := hD5 _ h; omega)) | (refine ⟨by omega, ?_⟩; intro h; first | (have := hD _ h; omega) | (have := hD0 _ h; omega) | (have := hD5 _ h; omega)))
      replace Fk6 := Fk6.mv1 G16 (by first | omega | exact fun h => h | exact ⟨by omega, fun h => h⟩ | (intro h; first | (have := hD _ h; omega) | (have := hD0 _ h; omega) | (have := hD5 _ h; omega)) | (refine ⟨by omega, ?_⟩; intro h; first | (have := hD _ h; omega) | (have := hD0 _ h; omega) | (have := hD5 _ h; omega)))
      replace Fb6 := Fb6.mv1 G16 (by first | omega | exact fun h => h | exact ⟨by omega, fun h => h⟩ | (intro h; first | (have := hD _ h; omega) | (have := hD0 _ h; omega) | (have := hD5 _ h; omega)) | (refine ⟨by omega, ?_⟩; intro h; first | (have := hD _ h; omega) | (have := hD0 _ h; omega) | (have := hD5 _ h; omega)))
      replace HG := HG.new1 G16 (by first | (refine Or.inr ?_; omega) | (refine Or.inl ?_; simp; done))
      clear G16
      have Fk8 := Fs17; clear Fs17
      simp only [V.spliceL, V.cellsL] at Fk8
      refine V.nil ?_
      refine V.tN ?_
      refine V.seq ?_
      refine V.region ?_
      refine V.run T_ok 1 rfl ?_
      refine V.nil ?_
      refine V.tN ?_
      refine V.seq ?_
      refine V.seq ?_
      refine V.region ?_
      refine V.run T_ok 1 rfl ?_
      refine V.loadO T_ok Fk8 rfl rfl rfl rfl rfl ?_
      refine V.nil ?_
      refine V.tN ?_
      refine V.block ?_
      refine V.seq ?_
      refine V.region ?_
      refine V.run T_ok 2 rfl ?_
      refine V.nil ?_
      refine V.tN ?_
      refine V.condT rfl (fun h11 => ?_) (fun h11 => ?_)
      ·
        try simp only [decide_eq_true_eq, decide_eq_false_iff_not, Bool.or_eq_true, Bool.and_eq_true, Bool.or_eq_false_iff, Bool.and_eq_false_iff, Bool.not_eq_true', Bool.not_eq_false', Int.not_lt, Int.not_le, Decidable.not_not] at h11
        refine V.seq ?_
        refine V.region ?_
        refine V.run T_ok 2 rfl ?_
        refine V.loadO T_ok Fk8 rfl rfl rfl rfl rfl ?_
        refine V.call (rnumber_spec (most := x.n) FR (fun h => by have := hD5 _ h; omega)) rfl rfl rfl ?_
        rintro _ w20 ⟨rfl, FR, G21, _⟩
        have z22 := V.Fr.size G21
        replace F0 := F0.mv1 G21 (by first | omega | exact fun h => h | exact ⟨by omega, fun h => h⟩ | (intro h; first | (have := hD _ h; omega) | (have := hD0 _ h; omega) | (have := hD5 _ h; omega)) | (refine ⟨by omega, ?_⟩; intro h; first | (have := hD _ h; omega) | (have := hD0 _ h; omega) | (have := hD5 _ h; omega)))
        replace FX := FX.mv1 G21 (by first | omega | exact fun h => h | exact ⟨by omega, fun h => h⟩ | (intro h; first | (have := hD _ h; omega) | (have := hD0 _ h; omega) | (have := hD5 _ h; omega)) | (refine ⟨by omega, ?_⟩; intro h; first | (have := hD _ h; omega) | (have := hD0 _ h; omega) | (have := hD5 _ h; omega)))
        replace Fk6 := Fk6.mv1 G21 (by first | omega | exact fun h => h | exact ⟨by omega, fun h => h⟩ | (intro h; first | (have := hD _ h; omega) | (have := hD0 _ h; omega) | (have := hD5 _ h; omega)) | (refine ⟨by omega, ?_⟩; intro h; first | (have := hD _ h; omega) | (have := hD0 _ h; omega) | (have := hD5 _ h; omega)))
        replace Fb6 := Fb6.mv1 G21 (by first | omega | exact fun h => h | exact ⟨by omega, fun h => h⟩ | (intro h; first | (have := hD _ h; omega) | (have := hD0 _ h; omega) | (have := hD5 _ h; omega)) | (refine ⟨by omega, ?_⟩; intro h; first | (have := hD _ h; omega) | (have := hD0 _ h; omega) | (have := hD5 _ h; omega)))
        replace Fk8 := Fk8.mv1 G21 (by first | omega | exact fun h => h | exact ⟨by omega, fun h => h⟩ | (intro h; first | (have := hD _ h; omega) | (have := hD0 _ h; omega) | (have := hD5 _ h; omega)) | (refine ⟨by omega, ?_⟩; intro h; first | (have := hD _ h; omega) | (have := hD0 _ h; omega) | (have := hD5 _ h; omega)))
        replace HG := HG.new1 G21 (by first | (refine Or.inr ?_; omega) | (refine Or.inl ?_; simp; done))
        clear G21
        refine V.run T_ok 5 rfl ?_
        refine V.nil ?_
        refine V.tN ?_
        refine V.seq ?_
        refine V.region ?_
        refine V.run T_ok 2 rfl ?_
        refine V.loadO T_ok Fk8 rfl rfl rfl rfl rfl ?_
        refine V.call (ref_rnumber_spec (most := x.n) (R := ⟨⟨_, _, Fk6, Fb6⟩, hi6⟩) (fun h => by have := hD0 _ h; omega)) rfl rfl rfl ?_
        rintro _ w23 ⟨rfl, ⟨⟨a6, c6, Fk6, Fb6⟩, hi6⟩, G24⟩
        have z25 := V.Fr.size G24
        replace F0 := F0.mv1 G24 (by first | omega | exact fun h => h | exact ⟨by omega, fun h => h⟩ | (intro h; first | (have := hD _ h; omega) | (have := hD0 _ h; omega) | (have := hD5 _ h; omega)) | (refine ⟨by omega, ?_⟩; intro h; first | (have := hD _ h; omega) | (have := hD0 _ h; omega) | (have := hD5 _ h; omega)))
        replace FX := FX.mv1 G24 (by first | omega | exact fun h => h | exact ⟨by omega, fun h => h⟩ | (intro h; first | (have := hD _ h; omega) | (have := hD0 _ h; omega) | (have := hD5 _ h; omega)) | (refine ⟨by omega, ?_⟩; intro h; first | (have := hD _ h; omega) | (have := hD0 _ h; omega) | (have := hD5 _ h; omega)))
        replace Fk8 := Fk8.mv1 G24 (by first | omega | exact fun h => h | exact ⟨by omega, fun h => h⟩ | (intro h; first | (have := hD _ h; omega) | (have := hD0 _ h; omega) | (have := hD5 _ h; omega)) | (refine ⟨by omega, ?_⟩; intro h; first | (have := hD _ h; omega) | (have := hD0 _ h; omega) | (have := hD5 _ h; omega)))
        replace FR := FR.mv1 G24 (by first | omega | exact fun h => h | exact ⟨by omega, fun h => h⟩ | (intro h; first | (have := hD _ h; omega) | (have := hD0 _ h; omega) | (have := hD5 _ h; omega)) | (refine ⟨by omega, ?_⟩; intro h; first | (have := hD _ h; omega) | (have := hD0 _ h; omega) | (have := hD5 _ h; omega)))
        replace HG := HG.new1 G24 (by first | (refine Or.inr ?_; omega) | (refine Or.inl ?_; simp; done))
        clear G24
        rw [rdN_snd, List.drop_drop] at FR
        refine V.run T_ok 5 rfl ?_
        refine V.nil ?_
        refine V.tN ?_
        refine V.region ?_
        refine V.run T_ok 4 rfl ?_
        refine V.splitT (j := 3) (t := 65) rfl rfl (by simp) ?_
        refine V.run T_ok 5 rfl ?_
        refine V.nil ?_
        refine V.bN ?_
        refine V.tN ?_
        refine V.seq ?_
        refine V.drawQ mixed (by kernel_rfl) ?_
        refine V.qrun T_ok 3 rfl ?_
        refine V.qsplitF (j := 2) (t := 116) rfl rfl (by simp) ?_
        refine V.qrun T_ok 1 rfl ?_
        refine V.qyes rfl rfl rfl ?_
        refine V.qcall (fun w1 g => V.Meets.gr' (rleft_spec (FR.gr g))) rfl rfl rfl ?_
        refine V.qrun T_ok 5 rfl ?_
        refine V.qyes rfl rfl rfl ?_
        refine V.qloadO T_ok Fk6 rfl rfl rfl rfl rfl ?_
        refine V.qyes rfl rfl rfl ?_
        first | refine V.qsubN rfl rfl rfl rfl rfl (by omega) (by omega) ?_ | refine V.qrun T_ok 1 rfl ?_
        refine V.qrun T_ok 3 rfl ?_
        refine V.qsplitF (j := 14) (t := 128) rfl rfl (by (apply decide_eq_false; rw [List.length_drop]; omega)) ?_
        refine V.qrun T_ok 1 rfl ?_
        refine V.qyes rfl rfl rfl ?_
        refine V.qcall (fun w1 g => V.Meets.gr' (rend_spec (FR.gr g))) rfl rfl rfl ?_
        refine V.qrun T_ok 4 rfl ?_
        refine V.qyes rfl rfl rfl ?_
        refine V.qloadO T_ok Fk6 rfl rfl rfl rfl rfl ?_
        refine V.qrun T_ok 5 rfl ?_
        refine V.qnil ?_
        rintro w26 G27
        have z28 := V.Fr.size G27
        replace F0 := F0.gr G27
        replace FX := FX.gr G27
        replace Fk8 := Fk8.gr G27
        replace FR := FR.gr G27
        replace Fk6 := Fk6.gr G27
        replace Fb6 := Fb6.gr G27
        replace HG := HG.grow G27
        clear G27
        refine V.tN ?_
        refine V.condN rfl (by (rw [end_iff hi6]; simp)) ?_
        refine V.skip ?_
        refine V.bN ?_
        refine V.tN ?_
        refine V.region ?_
        refine V.run T_ok 1 rfl ?_
        first | refine V.addN rfl rfl rfl rfl rfl (by omega) (by omega) ?_ | refine V.run T_ok 1 rfl ?_
        refine V.run T_ok 1 rfl ?_
        refine V.nil ?_
        refine V.tN ?_
        exact ⟨⟨HG, F0, FX, j + 1, _, _, by omega, FR, ⟨⟨_, _, Fk6, Fb6⟩, hi6⟩, rfl, rfl, rfl, rfl, rfl⟩, by show xs.length - ((j : Int) + 1).toNat < _; omega⟩
      ·
        try simp only [decide_eq_true_eq, decide_eq_false_iff_not, Bool.or_eq_true, Bool.and_eq_true, Bool.or_eq_false_iff, Bool.and_eq_false_iff, Bool.not_eq_true', Bool.not_eq_false', Int.not_lt, Int.not_le, Decidable.not_not] at h11
        refine V.seq ?_
        refine V.region ?_
        refine V.run T_ok 2 rfl ?_
        refine V.nil ?_
        refine V.tN ?_
        refine V.condT rfl (fun h15 => ?_) (fun h15 => ?_)
        ·
          try simp only [decide_eq_true_eq, decide_eq_false_iff_not, Bool.or_eq_true, Bool.and_eq_true, Bool.or_eq_false_iff, Bool.and_eq_false_iff, Bool.not_eq_true', Bool.not_eq_false', Int.not_lt, Int.not_le, Decidable.not_not] at h15
          refine V.seq ?_
          refine V.region ?_
          refine V.run T_ok 1 rfl ?_
          refine V.call (rflag_spec FR (fun h => by have := hD5 _ h; omega)) rfl rfl rfl ?_
          rintro _ w29 ⟨rfl, FR, G30, _⟩
          have z31 := V.Fr.size G30
          replace F0 := F0.mv1 G30 (by first | omega | exact fun h => h | exact ⟨by omega, fun h => h⟩ | (intro h; first | (have := hD _ h; omega) | (have := hD0 _ h; omega) | (have := hD5 _ h; omega)) | (refine ⟨by omega, ?_⟩; intro h; first | (have := hD _ h; omega) | (have := hD0 _ h; omega) | (have := hD5 _ h; omega)))
          replace FX := FX.mv1 G30 (by first | omega | exact fun h => h | exact ⟨by omega, fun h => h⟩ | (intro h; first | (have := hD _ h; omega) | (have := hD0 _ h; omega) | (have := hD5 _ h; omega)) | (refine ⟨by omega, ?_⟩; intro h; first | (have := hD _ h; omega) | (have := hD0 _ h; omega) | (have := hD5 _ h; omega)))
          replace Fk6 := Fk6.mv1 G30 (by first | omega | exact fun h => h | exact ⟨by omega, fun h => h⟩ | (intro h; first | (have := hD _ h; omega) | (have := hD0 _ h; omega) | (have := hD5 _ h; omega)) | (refine ⟨by omega, ?_⟩; intro h; first | (have := hD _ h; omega) | (have := hD0 _ h; omega) | (have := hD5 _ h; omega)))
          replace Fb6 := Fb6.mv1 G30 (by first | omega | exact fun h => h | exact ⟨by omega, fun h => h⟩ | (intro h; first | (have := hD _ h; omega) | (have := hD0 _ h; omega) | (have := hD5 _ h; omega)) | (refine ⟨by omega, ?_⟩; intro h; first | (have := hD _ h; omega) | (have := hD0 _ h; omega) | (have := hD5 _ h; omega)))
          replace Fk8 := Fk8.mv1 G30 (by first | omega | exact fun h => h | exact ⟨by omega, fun h => h⟩ | (intro h; first | (have := hD _ h; omega) | (have := hD0 _ h; omega) | (have := hD5 _ h; omega)) | (refine ⟨by omega, ?_⟩; intro h; first | (have := hD _ h; omega) | (have := hD0 _ h; omega) | (have := hD5 _ h; omega)))
          replace HG := HG.new1 G30 (by first | (refine Or.inr ?_; omega) | (refine Or.inl ?_; simp; done))
          clear G30
          refine V.run T_ok 5 rfl ?_
          refine V.nil ?_
          refine V.tN ?_
          refine V.seq ?_
          refine V.region ?_
          refine V.run T_ok 1 rfl ?_
          refine V.call (ref_rflag_spec (R := ⟨⟨_, _, Fk6, Fb6⟩, hi6⟩) (fun h => by have := hD0 _ h; omega)) rfl rfl rfl ?_
          rintro _ w32 ⟨rfl, ⟨⟨a6, c6, Fk6, Fb6⟩, hi6⟩, G33⟩
          have z34 := V.Fr.size G33
          replace F0 := F0.mv1 G33 (by first | omega | exact fun h => h | exact ⟨by omega, fun h => h⟩ | (intro h; first | (have := hD _ h; omega) | (have := hD0 _ h; omega) | (have := hD5 _ h; omega)) | (refine ⟨by omega, ?_⟩; intro h; first | (have := hD _ h; omega) | (have := hD0 _ h; omega) | (have := hD5 _ h; omega)))
          replace FX := FX.mv1 G33 (by first | omega | exact fun h => h | exact ⟨by omega, fun h => h⟩ | (intro h; first | (have := hD _ h; omega) | (have := hD0 _ h; omega) | (have := hD5 _ h; omega)) | (refine ⟨by omega, ?_⟩; intro h; first | (have := hD _ h; omega) | (have := hD0 _ h; omega) | (have := hD5 _ h; omega)))
          replace Fk8 := Fk8.mv1 G33 (by first | omega | exact fun h => h | exact ⟨by omega, fun h => h⟩ | (intro h; first | (have := hD _ h; omega) | (have := hD0 _ h; omega) | (have := hD5 _ h; omega)) | (refine ⟨by omega, ?_⟩; intro h; first | (have := hD _ h; omega) | (have := hD0 _ h; omega) | (have := hD5 _ h; omega)))
          replace FR := FR.mv1 G33 (by first | omega | exact fun h => h | exact ⟨by omega, fun h => h⟩ | (intro h; first | (have := hD _ h; omega) | (have := hD0 _ h; omega) | (have := hD5 _ h; omega)) | (refine ⟨by omega, ?_⟩; intro h; first | (have := hD _ h; omega) | (have := hD0 _ h; omega) | (have := hD5 _ h; omega)))
          replace HG := HG.new1 G33 (by first | (refine Or.inr ?_; omega) | (refine Or.inl ?_; simp; done))
          clear G33
          rw [show (rdF (bs.drop i)).2 = (bs.drop i).drop (rdC (bs.drop i) 1) from rdN_snd _ _, List.drop_drop] at FR
          refine V.run T_ok 5 rfl ?_
          refine V.nil ?_
          refine V.tN ?_
          refine V.region ?_
          refine V.run T_ok 4 rfl ?_
          refine V.splitT (j := 3) (t := 85) rfl rfl (by simp) ?_
          refine V.run T_ok 5 rfl ?_
          refine V.nil ?_
          refine V.bN ?_
          refine V.tN ?_
          refine V.seq ?_
          refine V.drawQ mixed (by kernel_rfl) ?_
          refine V.qrun T_ok 3 rfl ?_
          refine V.qsplitF (j := 2) (t := 116) rfl rfl (by simp) ?_
          refine V.qrun T_ok 1 rfl ?_
          refine V.qyes rfl rfl rfl ?_
          refine V.qcall (fun w1 g => V.Meets.gr' (rleft_spec (FR.gr g))) rfl rfl rfl ?_
          refine V.qrun T_ok 5 rfl ?_
          refine V.qyes rfl rfl rfl ?_
          refine V.qloadO T_ok Fk6 rfl rfl rfl rfl rfl ?_
          refine V.qyes rfl rfl rfl ?_
          first | refine V.qsubN rfl rfl rfl rfl rfl (by omega) (by omega) ?_ | refine V.qrun T_ok 1 rfl ?_
          refine V.qrun T_ok 3 rfl ?_
          refine V.qsplitF (j := 14) (t := 128) rfl rfl (by (apply decide_eq_false; rw [List.length_drop]; omega)) ?_
          refine V.qrun T_ok 1 rfl ?_
          refine V.qyes rfl rfl rfl ?_
          refine V.qcall (fun w1 g => V.Meets.gr' (rend_spec (FR.gr g))) rfl rfl rfl ?_
          refine V.qrun T_ok 4 rfl ?_
          refine V.qyes rfl rfl rfl ?_
          refine V.qloadO T_ok Fk6 rfl rfl rfl rfl rfl ?_
          refine V.qrun T_ok 5 rfl ?_
          refine V.qnil ?_
          rintro w35 G36
          have z37 := V.Fr.size G36
          replace F0 := F0.gr G36
          replace FX := FX.gr G36
          replace Fk8 := Fk8.gr G36
          replace FR := FR.gr G36
          replace Fk6 := Fk6.gr G36
          replace Fb6 := Fb6.gr G36
          replace HG := HG.grow G36
          clear G36
          refine V.tN ?_
          refine V.condN rfl (by (rw [end_iff hi6]; simp)) ?_
          refine V.skip ?_
          refine V.bN ?_
          refine V.tN ?_
          refine V.region ?_
          refine V.run T_ok 1 rfl ?_
          first | refine V.addN rfl rfl rfl rfl rfl (by omega) (by omega) ?_ | refine V.run T_ok 1 rfl ?_
          refine V.run T_ok 1 rfl ?_
          refine V.nil ?_
          refine V.tN ?_
          exact ⟨⟨HG, F0, FX, j + 1, _, _, by omega, FR, ⟨⟨_, _, Fk6, Fb6⟩, hi6⟩, rfl, rfl, rfl, rfl, rfl⟩, by show xs.length - ((j : Int) + 1).toNat < _; omega⟩
        ·
          try simp only [decide_eq_true_eq, decide_eq_false_iff_not, Bool.or_eq_true, Bool.and_eq_true, Bool.or_eq_false_iff, Bool.and_eq_false_iff, Bool.not_eq_true', Bool.not_eq_false', Int.not_lt, Int.not_le, Decidable.not_not] at h15
          refine V.seq ?_
          refine V.region ?_
          refine V.run T_ok 2 rfl ?_
          refine V.nil ?_
          refine V.tN ?_
          refine V.condT rfl (fun h19 => ?_) (fun h19 => ?_)
          ·
            try simp only [decide_eq_true_eq, decide_eq_false_iff_not, Bool.or_eq_true, Bool.and_eq_true, Bool.or_eq_false_iff, Bool.and_eq_false_iff, Bool.not_eq_true', Bool.not_eq_false', Int.not_lt, Int.not_le, Decidable.not_not] at h19
            refine V.seq ?_
            refine V.region ?_
            refine V.run T_ok 2 rfl ?_
            refine V.loadO T_ok Fk8 rfl rfl rfl rfl rfl ?_
            refine V.call (rtext_spec (most := x.n) FR (fun h => by have := hD5 _ h; omega)) rfl rfl rfl ?_
            rintro _ w38 ⟨rfl, FR, G39, _⟩
            have z40 := V.Fr.size G39
            replace F0 := F0.mv1 G39 (by first | omega | exact fun h => h | exact ⟨by omega, fun h => h⟩ | (intro h; first | (have := hD _ h; omega) | (have := hD0 _ h; omega) | (have := hD5 _ h; omega)) | (refine ⟨by omega, ?_⟩; intro h; first | (have := hD _ h; omega) | (have := hD0 _ h; omega) | (have := hD5 _ h; omega)))
            replace FX := FX.mv1 G39 (by first | omega | exact fun h => h | exact ⟨by omega, fun h => h⟩ | (intro h; first | (have := hD _ h; omega) | (have := hD0 _ h; omega) | (have := hD5 _ h; omega)) | (refine ⟨by omega, ?_⟩; intro h; first | (have := hD _ h; omega) | (have := hD0 _ h; omega) | (have := hD5 _ h; omega)))
            replace Fk6 := Fk6.mv1 G39 (by first | omega | exact fun h => h | exact ⟨by omega, fun h => h⟩ | (intro h; first | (have := hD _ h; omega) | (have := hD0 _ h; omega) | (have := hD5 _ h; omega)) | (refine ⟨by omega, ?_⟩; intro h; first | (have := hD _ h; omega) | (have := hD0 _ h; omega) | (have := hD5 _ h; omega)))
            replace Fb6 := Fb6.mv1 G39 (by first | omega | exact fun h => h | exact ⟨by omega, fun h => h⟩ | (intro h; first | (have := hD _ h; omega) | (have := hD0 _ h; omega) | (have := hD5 _ h; omega)) | (refine ⟨by omega, ?_⟩; intro h; first | (have := hD _ h; omega) | (have := hD0 _ h; omega) | (have := hD5 _ h; omega)))
            replace Fk8 := Fk8.mv1 G39 (by first | omega | exact fun h => h | exact ⟨by omega, fun h => h⟩ | (intro h; first | (have := hD _ h; omega) | (have := hD0 _ h; omega) | (have := hD5 _ h; omega)) | (refine ⟨by omega, ?_⟩; intro h; first | (have := hD _ h; omega) | (have := hD0 _ h; omega) | (have := hD5 _ h; omega)))
            replace HG := HG.new1 G39 (by first | (refine Or.inr ?_; omega) | (refine Or.inl ?_; simp; done))
            clear G39
            refine V.run T_ok 5 rfl ?_
            refine V.nil ?_
            refine V.tN ?_
            refine V.seq ?_
            refine V.region ?_
            refine V.run T_ok 2 rfl ?_
            refine V.loadO T_ok Fk8 rfl rfl rfl rfl rfl ?_
            refine V.call (ref_rtext_spec (most := x.n) (R := ⟨⟨_, _, Fk6, Fb6⟩, hi6⟩) (fun h => by have := hD0 _ h; omega)) rfl rfl rfl ?_
            rintro _ w41 ⟨rfl, ⟨⟨a6, c6, Fk6, Fb6⟩, hi6⟩, G42⟩
            have z43 := V.Fr.size G42
            replace F0 := F0.mv1 G42 (by first | omega | exact fun h => h | exact ⟨by omega, fun h => h⟩ | (intro h; first | (have := hD _ h; omega) | (have := hD0 _ h; omega) | (have := hD5 _ h; omega)) | (refine ⟨by omega, ?_⟩; intro h; first | (have := hD _ h; omega) | (have := hD0 _ h; omega) | (have := hD5 _ h; omega)))
            replace FX := FX.mv1 G42 (by first | omega | exact fun h => h | exact ⟨by omega, fun h => h⟩ | (intro h; first | (have := hD _ h; omega) | (have := hD0 _ h; omega) | (have := hD5 _ h; omega)) | (refine ⟨by omega, ?_⟩; intro h; first | (have := hD _ h; omega) | (have := hD0 _ h; omega) | (have := hD5 _ h; omega)))
            replace Fk8 := Fk8.mv1 G42 (by first | omega | exact fun h => h | exact ⟨by omega, fun h => h⟩ | (intro h; first | (have := hD _ h; omega) | (have := hD0 _ h; omega) | (have := hD5 _ h; omega)) | (refine ⟨by omega, ?_⟩; intro h; first | (have := hD _ h; omega) | (have := hD0 _ h; omega) | (have := hD5 _ h; omega)))
            replace FR := FR.mv1 G42 (by first | omega | exact fun h => h | exact ⟨by omega, fun h => h⟩ | (intro h; first | (have := hD _ h; omega) | (have := hD0 _ h; omega) | (have := hD5 _ h; omega)) | (refine ⟨by omega, ?_⟩; intro h; first | (have := hD _ h; omega) | (have := hD0 _ h; omega) | (have := hD5 _ h; omega)))
            replace HG := HG.new1 G42 (by first | (refine Or.inr ?_; omega) | (refine Or.inl ?_; simp; done))
            clear G42
            rw [rdT_snd, List.drop_drop] at FR
            refine V.run T_ok 5 rfl ?_
            refine V.nil ?_
            refine V.tN ?_
            refine V.region ?_
            refine V.run T_ok 4 rfl ?_
            refine V.splitT (j := 3) (t := 109) rfl rfl (by simp) ?_
            refine V.run T_ok 5 rfl ?_
            refine V.nil ?_
            refine V.bN ?_
            refine V.tN ?_
            refine V.seq ?_
            refine V.drawQ mixed (by kernel_rfl) ?_
            refine V.qrun T_ok 3 rfl ?_
            refine V.qsplitF (j := 2) (t := 116) rfl rfl (by simp) ?_
            refine V.qrun T_ok 1 rfl ?_
            refine V.qyes rfl rfl rfl ?_
            refine V.qcall (fun w1 g => V.Meets.gr' (rleft_spec (FR.gr g))) rfl rfl rfl ?_
            refine V.qrun T_ok 5 rfl ?_
            refine V.qyes rfl rfl rfl ?_
            refine V.qloadO T_ok Fk6 rfl rfl rfl rfl rfl ?_
            refine V.qyes rfl rfl rfl ?_
            first | refine V.qsubN rfl rfl rfl rfl rfl (by omega) (by omega) ?_ | refine V.qrun T_ok 1 rfl ?_
            refine V.qrun T_ok 3 rfl ?_
            refine V.qsplitF (j := 14) (t := 128) rfl rfl (by (apply decide_eq_false; rw [List.length_drop]; omega)) ?_
            refine V.qrun T_ok 1 rfl ?_
            refine V.qyes rfl rfl rfl ?_
            refine V.qcall (fun w1 g => V.Meets.gr' (rend_spec (FR.gr g))) rfl rfl rfl ?_
            refine V.qrun T_ok 4 rfl ?_
            refine V.qyes rfl rfl rfl ?_
            refine V.qloadO T_ok Fk6 rfl rfl rfl rfl rfl ?_
            refine V.qrun T_ok 5 rfl ?_
            refine V.qnil ?_
            rintro w44 G45
            have z46 := V.Fr.size G45
            replace F0 := F0.gr G45
            replace FX := FX.gr G45
            replace Fk8 := Fk8.gr G45
            replace FR := FR.gr G45
            replace Fk6 := Fk6.gr G45
            replace Fb6 := Fb6.gr G45
            replace HG := HG.grow G45
            clear G45
            refine V.tN ?_
            refine V.condN rfl (by (rw [end_iff hi6]; simp)) ?_
            refine V.skip ?_
            refine V.bN ?_
            refine V.tN ?_
            refine V.region ?_
            refine V.run T_ok 1 rfl ?_
            first | refine V.addN rfl rfl rfl rfl rfl (by omega) (by omega) ?_ | refine V.run T_ok 1 rfl ?_
            refine V.run T_ok 1 rfl ?_
            refine V.nil ?_
            refine V.tN ?_
            exact ⟨⟨HG, F0, FX, j + 1, _, _, by omega, FR, ⟨⟨_, _, Fk6, Fb6⟩, hi6⟩, rfl, rfl, rfl, rfl, rfl⟩, by show xs.length - ((j : Int) + 1).toNat < _; omega⟩
          ·
            try simp only [decide_eq_true_eq, decide_eq_false_iff_not, Bool.or_eq_true, Bool.and_eq_true, Bool.or_eq_false_iff, Bool.and_eq_false_iff, Bool.not_eq_true', Bool.not_eq_false', Int.not_lt, Int.not_le, Decidable.not_not] at h19
            refine V.skip ?_
            refine V.bN ?_
            refine V.tN ?_
            refine V.seq ?_
            refine V.drawQ mixed (by kernel_rfl) ?_
            refine V.qrun T_ok 3 rfl ?_
            refine V.qsplitF (j := 2) (t := 116) rfl rfl (by simp) ?_
            refine V.qrun T_ok 1 rfl ?_
            refine V.qyes rfl rfl rfl ?_
            refine V.qcall (fun w1 g => V.Meets.gr' (rleft_spec (FR.gr g))) rfl rfl rfl ?_
            refine V.qrun T_ok 5 rfl ?_
            refine V.qyes rfl rfl rfl ?_
            refine V.qloadO T_ok Fk6 rfl rfl rfl rfl rfl ?_
            refine V.qyes rfl rfl rfl ?_
            first | refine V.qsubN rfl rfl rfl rfl rfl (by omega) (by omega) ?_ | refine V.qrun T_ok 1 rfl ?_
            refine V.qrun T_ok 3 rfl ?_
            refine V.qsplitF (j := 14) (t := 128) rfl rfl (by (apply decide_eq_false; rw [List.length_drop]; omega)) ?_
            refine V.qrun T_ok 1 rfl ?_
            refine V.qyes rfl rfl rfl ?_
            refine V.qcall (fun w1 g => V.Meets.gr' (rend_spec (FR.gr g))) rfl rfl rfl ?_
            refine V.qrun T_ok 4 rfl ?_
            refine V.qyes rfl rfl rfl ?_
            refine V.qloadO T_ok Fk6 rfl rfl rfl rfl rfl ?_
            refine V.qrun T_ok 5 rfl ?_
            refine V.qnil ?_
            rintro w47 G48
            have z49 := V.Fr.size G48
            replace F0 := F0.gr G48
            replace FX := FX.gr G48
            replace FR := FR.gr G48
            replace Fk6 := Fk6.gr G48
            replace Fb6 := Fb6.gr G48
            replace Fk8 := Fk8.gr G48
            replace HG := HG.grow G48
            clear G48
            refine V.tN ?_
            refine V.condN rfl (by (rw [end_iff hi6]; simp)) ?_
            refine V.skip ?_
            refine V.bN ?_
            refine V.tN ?_
            refine V.region ?_
            refine V.run T_ok 1 rfl ?_
            first | refine V.addN rfl rfl rfl rfl rfl (by omega) (by omega) ?_ | refine V.run T_ok 1 rfl ?_
            refine V.run T_ok 1 rfl ?_
            refine V.nil ?_
            refine V.tN ?_
            exact ⟨⟨HG, F0, FX, j + 1, _, _, by omega, FR, ⟨⟨_, _, Fk6, Fb6⟩, hi6⟩, rfl, rfl, rfl, rfl, rfl⟩, by show xs.length - ((j : Int) + 1).toNat < _; omega⟩
    ·
      try simp only [decide_eq_true_eq, decide_eq_false_iff_not, Bool.or_eq_true, Bool.and_eq_true, Bool.or_eq_false_iff, Bool.and_eq_false_iff, Bool.not_eq_true', Bool.not_eq_false', Int.not_lt, Int.not_le, Decidable.not_not] at h6
      refine V.exit ?_
      refine V.tX ?_
      refine V.tX ?_
      refine V.bE ?_
      refine V.tN ?_
      refine V.seq ?_
      refine V.region ?_
      refine V.call (alive_spec) rfl rfl rfl ?_
      rintro _ w50 ⟨rfl, G51⟩
      have z52 := V.Fr.size G51
      replace F0 := F0.gr G51
      replace FX := FX.gr G51
      replace FR := FR.gr G51
      replace Fk6 := Fk6.gr G51
      replace Fb6 := Fb6.gr G51
      replace HG := HG.grow G51
      clear G51
      refine V.run T_ok 1 rfl ?_
      refine V.nil ?_
      refine V.tN ?_
      refine V.ret ?_
      refine V.done rfl ?_
      exact ⟨rfl, HG⟩

end Go.Proofs.Ytbbfjcobjbopmaa
