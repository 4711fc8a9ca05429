/- Proved here: walks: what functions of this seat's program return and what they leave of memory, each as a contract. Conditions: stated at each theorem. -/
import Derived.Test.YtbbfjcobjbopmaaH7
namespace Go.Proofs.Ytbbfjcobjbopmaa
set_option linter.unusedVariables false
set_option linter.unusedSimpArgs false
open Go
open V (Bytes Meets Env Sl Own Gr Fr Cells S)
set_option maxHeartbeats 4000000 in
set_option maxRecDepth 10000 in
theorem packWrites_walk {w : World} {D : Nat → Prop} {c : Nat} {a : Option Addr} {xs : List ActV} (FX : Sl actC w D a c xs) (hD : ∀ k, D k → k < w.heap.size) (hok : ∀ x ∈ xs, x.ok) :
    Meets Try.prog 9 [.slice a xs.length c] w fun r w' => r = .bool true ∧ Gr w w' := by
  have HG := V.Fr.refl [] w
  refine V.enter (n := 67) Try.func9 rfl rfl (by decide) rfl ?_
  refine V.seq ?_
  refine V.region ?_
  refine V.run T_ok 1 rfl ?_
  refine V.nil ?_
  refine V.tN ?_
  refine V.seq ?_
  refine V.region ?_
  refine V.run T_ok 2 rfl ?_
  refine V.nil ?_
  refine V.tN ?_
  refine V.seq ?_
  refine V.seq ?_
  refine V.region ?_
  refine V.run T_ok 1 rfl ?_
  refine V.nil ?_
  refine V.tN ?_
  refine V.block ?_
  refine V.loop (fun e w' => Gr w w' ∧ Sl actC w' D a c xs ∧ ∃ (i r : Nat) (bs : List UInt8) (a3 a4 : Option Addr) (c3 c4 : Nat), i ≤ 60 ∧ i ≤ xs.length ∧ bs.length ≤ 409 * i ∧ e 0 = .slice a xs.length c ∧ e 3 = .slice a3 bs.length c3 ∧ e 4 = .slice a4 bs.length c4 ∧ e 5 = .int .i64 i ∧ Bytes w' (fun k => k = r ∧ k < w'.heap.size) a3 c3 bs ∧ V.Grw V.Cod.byte 5 w' r w.heap.size w'.heap.size a4 c4 bs) (fun e w' => xs.length - (V.intOf (e 5)).toNat) ?_ ?_
  ·
    exact ⟨HG, FX, 0, 0, [], none, none, 0, 0, by omega, by omega, by simp, rfl, rfl, rfl, rfl, Sl.nil _ _ _ _ _ (Nat.zero_le _), V.Grw.nil⟩
  clear FX
  clear HG
  rintro e w' ⟨HG, FX, i, r, bs, a3, a4, c3, c4, hi60, hil, hbl, h0, h3, h4, h5, F3, F4⟩
  have hmeas : (V.intOf (e 5)).toNat = i := by rw [h5]; simp [V.intOf]
  rw [hmeas]
  have hzz := HG.size
  refine V.knownC (t := 0) h0 ?_
  refine V.knownC (t := 3) h3 ?_
  refine V.knownC (t := 4) h4 ?_
  refine V.knownC (t := 5) h5 ?_
  refine V.seq ?_
  refine V.seq ?_
  refine V.region ?_
  refine V.run T_ok 5 rfl ?_
  refine V.andG T_ok 2 4 13 rfl rfl rfl rfl rfl rfl rfl rfl ?_
  refine V.nil ?_
  refine V.tN ?_
  refine V.condT rfl (fun h3 => ?_) (fun h3 => ?_)
  ·
    try simp only [decide_eq_true_eq, decide_eq_false_iff_not, Bool.or_eq_true, Bool.and_eq_true, Bool.or_eq_false_iff, Bool.and_eq_false_iff, Bool.not_eq_true', Bool.not_eq_false', Int.not_lt, Int.not_le, Decidable.not_not] at h3
    refine V.skip ?_
    refine V.tN ?_
    refine V.seq ?_
    refine V.block ?_
    refine V.seq ?_
    refine V.seq ?_
    refine V.region ?_
    refine V.run T_ok 2 rfl ?_
    refine V.elem T_ok FX rfl rfl sz47 rfl rfl rfl rfl (by omega) (by omega) ?_
    rintro b1 o1 cs1 hx1 hb1 rfl hA1
    obtain ⟨x, hxe⟩ : ∃ x, xs[(i : Int).toNat] = x := ⟨_, rfl⟩
    rw [hxe] at hA1
    have hxo : x.ok := hxe ▸ hok _ (List.getElem_mem hx1)
    refine V.run T_ok 1 rfl ?_
    refine V.loadA T_ok (o0 := o1) (off := 3) hA1 rfl rfl rfl rfl rfl ?_
    refine V.run T_ok 2 rfl ?_
    refine V.nil ?_
    refine V.tN ?_
    refine V.condT rfl (fun h5 => ?_) (fun h5 => ?_)
    ·
      try simp only [decide_eq_true_eq, decide_eq_false_iff_not, Bool.or_eq_true, Bool.and_eq_true, Bool.or_eq_false_iff, Bool.and_eq_false_iff, Bool.not_eq_true', Bool.not_eq_false', Int.not_lt, Int.not_le, Decidable.not_not] at h5
      refine V.exit ?_
      refine V.tX ?_
      refine V.bE ?_
      refine V.tN ?_
      refine V.region ?_
      refine V.run T_ok 1 rfl ?_
      first | refine V.addN rfl rfl rfl rfl rfl (by omega) (by omega) ?_ | refine V.run T_ok 1 rfl ?_
      refine V.run T_ok 1 rfl ?_
      refine V.nil ?_
      refine V.tN ?_
      first
        | exact ⟨⟨HG, FX, i + 1, r, bs, a3, a4, c3, c4, by omega, by omega, by omega, rfl, rfl, rfl, rfl, F3, F4⟩, by show xs.length - ((i : Int) + 1).toNat < _; omega⟩
        | exact ⟨⟨HG, FX, i + 1, g7, bs ++ actB x, a7, a10, c7, c10, by omega, by omega, by rw [List.length_append]; omega, rfl, rfl, rfl, rfl, F7.sl (fun _ h => h.elim) ⟨rfl, by omega⟩, V.Grw.of F10 (by omega) (hltg10 hne) (by omega)⟩, by show xs.length - ((i : Int) + 1).toNat < _; omega⟩
    ·
      try simp only [decide_eq_true_eq, decide_eq_false_iff_not, Bool.or_eq_true, Bool.and_eq_true, Bool.or_eq_false_iff, Bool.and_eq_false_iff, Bool.not_eq_true', Bool.not_eq_false', Int.not_lt, Int.not_le, Decidable.not_not] at h5
      refine V.skip ?_
      refine V.tN ?_
      refine V.seq ?_
      refine V.region ?_
      refine V.run T_ok 1 rfl ?_
      refine V.toStr F3 Try.underlying23 Try.underlying5 Try.underlying9 rfl rfl rfl rfl ?_
      refine V.run T_ok 1 rfl ?_
      refine V.nil ?_
      refine V.tN ?_
      refine V.seq ?_
      refine V.region ?_
      refine V.run T_ok 2 rfl ?_
      refine V.elem T_ok FX rfl rfl sz47 rfl rfl rfl rfl (by omega) (by omega) ?_
      rintro b2 o2 cs2 hx2 hb2 rfl hA2
      rw [hxe] at hA2
      refine V.loadA T_ok (o0 := o2) (off := 0) hA2 rfl rfl rfl rfl rfl ?_
      refine V.run T_ok 1 rfl ?_
      refine V.call (put_spec F3 (fun k hk => by omega) (by omega) hxo (by omega)) rfl rfl rfl ?_
      rintro _ w1 ⟨a7, c7, rfl, ⟨g7, hg7a, hg7b, F7⟩, G2⟩
      have z3 := V.Fr.size G2
      replace FX := FX.gr G2
      replace F3 := F3.gr G2
      replace F4 := F4.gr G2
      replace HG := HG.grow G2
      clear G2
      have hal := actB_len hxo (by omega)
      refine V.run T_ok 1 rfl ?_
      refine V.nil ?_
      refine V.tN ?_
      refine V.seq ?_
      refine V.region ?_
      refine V.run T_ok 2 rfl ?_
      refine V.elem T_ok FX rfl rfl sz47 rfl rfl rfl rfl (by omega) (by omega) ?_
      rintro b3 o3 cs3 hx3 hb3 rfl hA3
      rw [hxe] at hA3
      refine V.loadA T_ok (o0 := o3) (off := 0) hA3 rfl rfl rfl rfl rfl ?_
      refine V.run T_ok 1 rfl ?_
      refine V.call (put_spec F3 (fun k hk => by omega) (by omega) hxo (by omega)) rfl rfl rfl ?_
      rintro _ w4 ⟨a8, c8, rfl, ⟨g8, hg8a, hg8b, F8⟩, G5⟩
      have z6 := V.Fr.size G5
      replace FX := FX.gr G5
      replace F3 := F3.gr G5
      replace F4 := F4.gr G5
      replace F7 := F7.gr G5
      replace HG := HG.grow G5
      clear G5
      refine V.run T_ok 1 rfl ?_
      refine V.nil ?_
      refine V.tN ?_
      refine V.seq ?_
      refine V.region ?_
      refine V.run T_ok 3 rfl ?_
      refine V.elem T_ok FX rfl rfl sz47 rfl rfl rfl rfl (by omega) (by omega) ?_
      rintro b4 o4 cs4 hx4 hb4 rfl hA4
      rw [hxe] at hA4
      refine V.loadA T_ok (o0 := o4) (off := 0) hA4 rfl rfl rfl rfl rfl ?_
      refine V.call (bytes_spec hxo (by omega)) rfl rfl rfl ?_
      rintro _ w7 ⟨a9, c9, rfl, N9, G8⟩
      have z9 := V.Fr.size G8
      replace FX := FX.gr G8
      replace F3 := F3.gr G8
      replace F4 := F4.gr G8
      replace F7 := F7.gr G8
      replace F8 := F8.gr G8
      replace HG := HG.grow G8
      clear G8
      have F9 := N9.sl
      obtain ⟨g, hO, hg⟩ := F4.own
      have FO := hO
      clear F4 hO
      have hne : bs ++ actB x ≠ [] := fun h => by have h1 := congrArg List.length h; have h2 := actB_pos x; rw [List.length_append, List.length_nil] at h1; omega
      refine V.appendO (FO) (V.From.flat V.flat_byte (F9.from Try.underlying23)) elT23_23 rfl rfl rfl rfl rfl (by omega) (by unfold maxLen; omega) (by first | omega | exact fun h => h) ?_
      rintro g10 a10 c10 w10 G11 s12 horg10 hltg10 Fnew
      clear FO
      have z13 := V.Fr.size G11
      replace FX := FX.mv1 G11 (by first | omega | exact fun h => h | exact ⟨by omega, fun h => h⟩ | (intro h; first | (have := hD _ h; omega)) | (refine ⟨by omega, ?_⟩; intro h; first | (have := hD _ h; omega)))
      replace F3 := F3.mv1 G11 (by first | omega | exact fun h => h | exact ⟨by omega, fun h => h⟩ | (intro h; first | (have := hD _ h; omega)) | (refine ⟨by omega, ?_⟩; intro h; first | (have := hD _ h; omega)))
      replace F7 := F7.mv1 G11 (by first | omega | exact fun h => h | exact ⟨by omega, fun h => h⟩ | (intro h; first | (have := hD _ h; omega)) | (refine ⟨by omega, ?_⟩; intro h; first | (have := hD _ h; omega)))
      replace F8 := F8.mv1 G11 (by first | omega | exact fun h => h | exact ⟨by omega, fun h => h⟩ | (intro h; first | (have := hD _ h; omega)) | (refine ⟨by omega, ?_⟩; intro h; first | (have := hD _ h; omega)))
      replace F9 := F9.mv1 G11 (by first | omega | exact fun h => h | exact ⟨by omega, fun h => h⟩ | (intro h; first | (have := hD _ h; omega)) | (refine ⟨by omega, ?_⟩; intro h; first | (have := hD _ h; omega)))
      replace HG := HG.new1 G11 (by first | (refine Or.inr ?_; omega) | (refine Or.inl ?_; simp; done))
      clear G11
      have F10 := Fnew; clear Fnew
      refine V.run T_ok 1 rfl ?_
      refine V.nil ?_
      refine V.tN ?_
      refine V.seq ?_
      refine V.seq ?_
      refine V.region ?_
      refine V.run T_ok 1 rfl ?_
      refine V.toStr (F7.sl (D' := fun k => k = g7) (fun _ h => h.elim) rfl) Try.underlying23 Try.underlying5 Try.underlying9 rfl rfl rfl rfl ?_
      refine V.run T_ok 1 rfl ?_
      refine V.toStr (F10.sl (D' := fun k => k = g10) (fun _ h => h.elim) rfl) Try.underlying23 Try.underlying5 Try.underlying9 rfl rfl rfl rfl ?_
      refine V.run T_ok 2 rfl ?_
      refine V.splitF (j := 5) (t := 52) rfl rfl (by simp) ?_
      refine V.run T_ok 1 rfl ?_
      refine V.yes rfl rfl rfl ?_
      refine V.toStr (F8.sl (D' := fun k => k = g8) (fun _ h => h.elim) rfl) Try.underlying23 Try.underlying5 Try.underlying9 rfl rfl rfl rfl ?_
      refine V.run T_ok 1 rfl ?_
      refine V.yes rfl rfl rfl ?_
      refine V.toStr (F10.sl (D' := fun k => k = g10) (fun _ h => h.elim) rfl) Try.underlying23 Try.underlying5 Try.underlying9 rfl rfl rfl rfl ?_
      refine V.run T_ok 3 rfl ?_
      refine V.splitF (j := 12) (t := 59) rfl rfl (by simp) ?_
      refine V.run T_ok 1 rfl ?_
      refine V.yes rfl rfl rfl ?_
      refine V.toStr F3 Try.underlying23 Try.underlying5 Try.underlying9 rfl rfl rfl rfl ?_
      refine V.run T_ok 3 rfl ?_
      refine V.nil ?_
      refine V.tN ?_
      refine V.condN rfl (by simp) ?_
      refine V.skip ?_
      refine V.tN ?_
      refine V.region ?_
      refine V.run T_ok 2 rfl ?_
      refine V.nil ?_
      refine V.bN ?_
      refine V.tN ?_
      refine V.region ?_
      refine V.run T_ok 1 rfl ?_
      first | refine V.addN rfl rfl rfl rfl rfl (by omega) (by omega) ?_ | refine V.run T_ok 1 rfl ?_
      refine V.run T_ok 1 rfl ?_
      refine V.nil ?_
      refine V.tN ?_
      first
        | exact ⟨⟨HG, FX, i + 1, r, bs, a3, a4, c3, c4, by omega, by omega, by omega, rfl, rfl, rfl, rfl, F3, F4⟩, by show xs.length - ((i : Int) + 1).toNat < _; omega⟩
        | exact ⟨⟨HG, FX, i + 1, g7, bs ++ actB x, a7, a10, c7, c10, by omega, by omega, by rw [List.length_append]; omega, rfl, rfl, rfl, rfl, F7.sl (fun _ h => h.elim) ⟨rfl, by omega⟩, V.Grw.of F10 (by omega) (hltg10 hne) (by omega)⟩, by show xs.length - ((i : Int) + 1).toNat < _; omega⟩
  ·
    try simp only [decide_eq_true_eq, decide_eq_false_iff_not, Bool.or_eq_true, Bool.and_eq_true, Bool.or_eq_false_iff, Bool.and_eq_false_iff, Bool.not_eq_true', Bool.not_eq_false', Int.not_lt, Int.not_le, Decidable.not_not] at h3
    refine V.exit ?_
    refine V.tX ?_
    refine V.tX ?_
    refine V.bE ?_
    refine V.tN ?_
    refine V.seq ?_
    refine V.region ?_
    refine V.call (alive_spec) rfl rfl rfl ?_
    rintro _ w14 ⟨rfl, G15⟩
    have z16 := V.Fr.size G15
    replace FX := FX.gr G15
    replace F3 := F3.gr G15
    replace F4 := F4.gr G15
    replace HG := HG.grow G15
    clear G15
    refine V.run T_ok 1 rfl ?_
    refine V.nil ?_
    refine V.tN ?_
    refine V.ret ?_
    refine V.done rfl ?_
    exact ⟨rfl, HG⟩

end Go.Proofs.Ytbbfjcobjbopmaa
