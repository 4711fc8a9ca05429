/- Proved here: walks: what functions of this seat's program return and what they leave of memory, each as a contract. Conditions: stated at each theorem. -/
import Derived.Test.YtbbfjcobjbopmaaH8
namespace Go.Proofs.Ytbbfjcobjbopmaa
set_option linter.unusedVariables false
set_option linter.unusedSimpArgs false
open Go
open V (Bytes Meets Env Sl Own Gr Fr Cells S)

theorem rdN_num {v : Nat} {most : Int} (h : v ≤ 9223372036854775807) (hm : (v : Int) ≤ most) (r : List UInt8) : rdN (numB v ++ r) most = (((v : Int), 0), r) := by
  have hd := dec_num0 h r
  have hp := numB_pos v
  have hc : ¬ ((dec (numB v ++ r) 0 0).2 = 0 ∨ most < (dec (numB v ++ r) 0 0).1) := by rw [hd]; simp only; omega
  rw [rdN, if_neg hc, hd]
  simp only [List.drop_left]
theorem flagB_num (f : Bool) : flagB f = numB (if f then 1 else 0) := by cases f <;> (rw [numB_lt (by decide)]; rfl)
theorem rdF_flag (f : Bool) (r : List UInt8) : rdF (flagB f ++ r) = ((f, 0), r) := by
  rw [rdF, flagB_num, rdN_num (by cases f <;> simp) (by cases f <;> simp)]
  cases f <;> rfl
theorem rdT_text {s r : List UInt8} {most : Int} (h : s.length ≤ 9223372036854775807) (hm : (s.length : Int) ≤ most) : rdT (textB s ++ r) most = ((s, 0), r) := by
  have e : textB s ++ r = numB s.length ++ (s ++ r) := by rw [textB, List.append_assoc]
  have hd := dec_num0 h (s ++ r)
  have hp := numB_pos s.length
  have hl : (numB s.length ++ (s ++ r)).length = (numB s.length).length + s.length + r.length := by simp; omega
  have hc : ¬ ((dec (numB s.length ++ (s ++ r)) 0 0).2 = 0 ∨ most < (dec (numB s.length ++ (s ++ r)) 0 0).1 ∨ ((numB s.length ++ (s ++ r)).length : Int) - (dec (numB s.length ++ (s ++ r)) 0 0).2 < (dec (numB s.length ++ (s ++ r)) 0 0).1) := by
    rw [hd, hl]; simp only; omega
  rw [e, rdT, if_neg hc, hd]
  simp only [List.drop_left, List.take_left, ← List.drop_drop]

set_option maxHeartbeats 4000000 in
set_option maxRecDepth 10000 in
theorem packBack_walk {w : World} {D : Nat → Prop} {c : Nat} {a : Option Addr} {xs : List ActV} (FX : Sl actC w D a c xs) (hD : ∀ k, D k → k < w.heap.size) (hok : ∀ x ∈ xs, x.ok) :
    Meets Try.prog 13 [.slice a xs.length c] w fun r w' => r = .bool true ∧ Gr w w' := by
  have HG := V.Fr.refl [] w
  refine V.enter (n := 124) Try.func13 rfl rfl (by decide) rfl ?_
  refine V.seq ?_
  refine V.region ?_
  refine V.run T_ok 1 rfl ?_
  refine V.nil ?_
  refine V.tN ?_
  refine V.seq ?_
  refine V.region ?_
  refine V.run T_ok 1 rfl ?_
  refine V.nil ?_
  refine V.tN ?_
  refine V.seq ?_
  refine V.region ?_
  refine V.run T_ok 1 rfl ?_
  refine V.nil ?_
  refine V.tN ?_
  refine V.seq ?_
  refine V.seq ?_
  refine V.region ?_
  refine V.run T_ok 1 rfl ?_
  refine V.nil ?_
  refine V.tN ?_
  refine V.block ?_
  refine V.loop (fun e w' => Gr w w' ∧ Sl actC w' D a c xs ∧ ∃ (i r : Nat) (ds : List ActV) (a3 a4 : Option Addr) (c3 c4 : Nat), i ≤ 60 ∧ i ≤ xs.length ∧ ds.length ≤ i ∧ (ds.flatMap actB).length ≤ 409 * i ∧ (∀ d ∈ ds, d.ok ∧ d.s.size ≤ 400 ∧ 0 ≤ d.n) ∧ e 0 = .slice a xs.length c ∧ e 3 = .slice a3 (ds.flatMap actB).length c3 ∧ e 4 = .slice a4 ds.length c4 ∧ e 5 = .int .i64 i ∧ Bytes w' (fun k => k = r ∧ k < w'.heap.size) a3 c3 (ds.flatMap actB) ∧ V.Grw actC 47 w' r w.heap.size w'.heap.size a4 c4 ds) (fun e w' => xs.length - (V.intOf (e 5)).toNat) ?_ ?_
  ·
    exact ⟨HG, FX, 0, 0, [], none, none, 0, 0, by omega, by omega, by simp, by simp, by simp, rfl, rfl, rfl, rfl, Sl.nil _ _ _ _ _ (Nat.zero_le _), V.Grw.nil⟩
  clear FX
  clear HG
  rintro e w' ⟨HG, FX, i, r, ds, a3, a4, c3, c4, hi60, hil, hdl, hbl, hds, h0, h3, h4, h5, F3, F4⟩
  have hmeas : (V.intOf (e 5)).toNat = i := by rw [h5]; simp [V.intOf]
  rw [hmeas]
  have hzz := HG.size
  refine V.knownC (t := 0) h0 ?_
  refine V.knownC (t := 3) h3 ?_
  refine V.knownC (t := 4) h4 ?_
  refine V.knownC (t := 5) h5 ?_
  refine V.seq ?_
  refine V.seq ?_
  refine V.region ?_
  refine V.run T_ok 5 rfl ?_
  refine V.andG T_ok 2 4 19 rfl rfl rfl rfl rfl rfl rfl rfl ?_
  refine V.nil ?_
  refine V.tN ?_
  refine V.condT rfl (fun h4 => ?_) (fun h4 => ?_)
  ·
    try simp only [decide_eq_true_eq, decide_eq_false_iff_not, Bool.or_eq_true, Bool.and_eq_true, Bool.or_eq_false_iff, Bool.and_eq_false_iff, Bool.not_eq_true', Bool.not_eq_false', Int.not_lt, Int.not_le, Decidable.not_not] at h4
    refine V.skip ?_
    refine V.tN ?_
    refine V.seq ?_
    refine V.block ?_
    refine V.seq ?_
    refine V.region ?_
    refine V.run T_ok 2 rfl ?_
    refine V.elem T_ok FX rfl rfl sz47 rfl rfl rfl rfl (by omega) (by omega) ?_
    rintro b1 o1 cs1 hx1 hb1 rfl hA1
    obtain ⟨x, hxe⟩ : ∃ x, xs[(i : Int).toNat] = x := ⟨_, rfl⟩
    rw [hxe] at hA1
    have hxo : x.ok := hxe ▸ hok _ (List.getElem_mem hx1)
    refine V.run T_ok 1 rfl ?_
    refine V.loadA T_ok (o0 := o1) (off := 3) hA1 rfl rfl rfl rfl rfl ?_
    refine V.run T_ok 3 rfl ?_
    refine V.split (j := 7) (t := 32) rfl rfl (fun g6_7 => ?_) (fun g6_7 => ?_)
    ·
      try simp only [decide_eq_true_eq, decide_eq_false_iff_not, Bool.or_eq_true, Bool.and_eq_true, Bool.or_eq_false_iff, Bool.and_eq_false_iff, Bool.not_eq_true', Bool.not_eq_false', Int.not_lt, Int.not_le, Decidable.not_not] at g6_7
      refine V.run T_ok 2 rfl ?_
      refine V.yes rfl rfl rfl ?_
      refine V.elem T_ok FX rfl rfl sz47 rfl rfl rfl rfl (by omega) (by omega) ?_
      rintro b5 o5 cs5 hx5 hb5 rfl hA5
      rw [hxe] at hA5
      refine V.run T_ok 1 rfl ?_
      refine V.yes rfl rfl rfl ?_
      refine V.loadA T_ok (o0 := o5) (off := 1) hA5 rfl rfl rfl rfl rfl ?_
      refine V.run T_ok 2 rfl ?_
      refine V.nil ?_
      refine V.tN ?_
      refine V.condT rfl (fun h6 => ?_) (fun h6 => ?_)
      ·
        try simp only [decide_eq_true_eq, decide_eq_false_iff_not, Bool.or_eq_true, Bool.and_eq_true, Bool.or_eq_false_iff, Bool.and_eq_false_iff, Bool.not_eq_true', Bool.not_eq_false', Int.not_lt, Int.not_le, Decidable.not_not] at h6
        refine V.seq ?_
        refine V.region ?_
        refine V.run T_ok 2 rfl ?_
        refine V.elem T_ok FX rfl rfl sz47 rfl rfl rfl rfl (by omega) (by omega) ?_
        rintro b2 o2 cs2 hx2 hb2 rfl hA2
        rw [hxe] at hA2
        refine V.loadA T_ok (o0 := o2) (off := 0) hA2 rfl rfl rfl rfl rfl ?_
        refine V.run T_ok 1 rfl ?_
        refine V.call (put_spec F3 (fun k hk => by omega) (by omega) hxo (by omega)) rfl rfl rfl ?_
        rintro _ w1 ⟨a7, c7, rfl, ⟨g7, hg7a, hg7b, F7⟩, G2⟩
        have z3 := V.Fr.size G2
        replace FX := FX.gr G2
        replace F3 := F3.gr G2
        replace F4 := F4.gr G2
        replace HG := HG.grow G2
        clear G2
        have hal := actB_len hxo (by omega)
        have hfl : (ds ++ [x]).flatMap actB = ds.flatMap actB ++ actB x := by simp
        have hds2 : ∀ d ∈ ds ++ [x], d.ok ∧ d.s.size ≤ 400 ∧ 0 ≤ d.n := fun d hd => (List.mem_append.1 hd).elim (hds d) (fun h => by have e := List.mem_singleton.1 h; subst e; exact ⟨hxo, by omega, by omega⟩)
        refine V.run T_ok 1 rfl ?_
        refine V.nil ?_
        refine V.tN ?_
        refine V.region ?_
        refine V.run T_ok 3 rfl ?_
        refine V.elem T_ok FX rfl rfl sz47 rfl rfl rfl rfl (by omega) (by omega) ?_
        rintro b4 o4 cs4 hx4 hb4 rfl hA4
        rw [hxe] at hA4
        refine V.loadA T_ok (o0 := o4) (off := 0) hA4 rfl rfl rfl rfl rfl ?_
        refine V.mkSlice T_ok zero47 rfl rfl sz47 rfl rfl rfl rfl rfl rfl ?_
        rintro kb w4 s6 s7 G5 Fkb
        have z8 := V.Fr.size G5
        replace FX := FX.gr G5
        replace F3 := F3.gr G5
        replace F4 := F4.gr G5
        replace F7 := F7.gr G5
        replace HG := HG.grow G5
        clear G5
        obtain ⟨g, hO, hg⟩ := F4.own
        have FO := hO
        clear F4 hO
        refine V.appendO (FO) (V.From.flat (D := fun k => k = kb) V.flat_cells (V.from_one (C := actC) (x := x) Fkb rfl rfl Try.underlying45)) elT45_45 rfl rfl rfl rfl rfl (by (simp only [List.length_cons, List.length_nil]; omega)) (by unfold maxLen; (simp only [List.length_cons, List.length_nil]; omega)) (by first | omega | exact fun h => h) ?_
        rintro g10 a10 c10 w9 G10 s11 horg10 hltg10 Fnew
        clear FO
        have z12 := V.Fr.size G10
        replace FX := FX.mv1 G10 (by first | omega | exact fun h => h | exact ⟨by omega, fun h => h⟩ | (intro h; first | (have := hD _ h; omega) | (have := hDd _ h; omega) | (have := hD6 _ h; omega)) | (refine ⟨by omega, ?_⟩; intro h; first | (have := hD _ h; omega) | (have := hDd _ h; omega) | (have := hD6 _ h; omega)))
        replace F3 := F3.mv1 G10 (by first | omega | exact fun h => h | exact ⟨by omega, fun h => h⟩ | (intro h; first | (have := hD _ h; omega) | (have := hDd _ h; omega) | (have := hD6 _ h; omega)) | (refine ⟨by omega, ?_⟩; intro h; first | (have := hD _ h; omega) | (have := hDd _ h; omega) | (have := hD6 _ h; omega)))
        replace F7 := F7.mv1 G10 (by first | omega | exact fun h => h | exact ⟨by omega, fun h => h⟩ | (intro h; first | (have := hD _ h; omega) | (have := hDd _ h; omega) | (have := hD6 _ h; omega)) | (refine ⟨by omega, ?_⟩; intro h; first | (have := hD _ h; omega) | (have := hDd _ h; omega) | (have := hD6 _ h; omega)))
        replace Fkb := Fkb.mv1 G10 (by first | omega | exact fun h => h | exact ⟨by omega, fun h => h⟩ | (intro h; first | (have := hD _ h; omega) | (have := hDd _ h; omega) | (have := hD6 _ h; omega)) | (refine ⟨by omega, ?_⟩; intro h; first | (have := hD _ h; omega) | (have := hDd _ h; omega) | (have := hD6 _ h; omega)))
        replace HG := HG.new1 G10 (by first | (refine Or.inr ?_; omega) | (refine Or.inl ?_; simp; done))
        clear G10
        have F10 := Fnew; clear Fnew
        refine V.run T_ok 1 rfl ?_
        refine V.nil ?_
        refine V.bN ?_
        refine V.tN ?_
        refine V.region ?_
        refine V.run T_ok 1 rfl ?_
        first | refine V.addN rfl rfl rfl rfl rfl (by omega) (by omega) ?_ | refine V.run T_ok 1 rfl ?_
        refine V.run T_ok 1 rfl ?_
        refine V.nil ?_
        refine V.tN ?_
        first
          | exact ⟨⟨HG, FX, i + 1, r, ds, a3, a4, c3, c4, by omega, by omega, by omega, by omega, hds, rfl, rfl, rfl, rfl, F3, F4⟩, by show xs.length - ((i : Int) + 1).toNat < _; omega⟩
          | exact ⟨⟨HG, FX, i + 1, g7, ds ++ [x], a7, a10, c7, c10, by omega, by omega, by simp; omega, by rw [hfl, List.length_append]; omega, hds2, rfl, by rw [hfl]; rfl, rfl, rfl, by rw [hfl]; exact F7.sl (fun _ h => h.elim) ⟨rfl, by omega⟩, V.Grw.of F10 (by omega) (hltg10 (by simp)) (by omega)⟩, by show xs.length - ((i : Int) + 1).toNat < _; omega⟩
      ·
        try simp only [decide_eq_true_eq, decide_eq_false_iff_not, Bool.or_eq_true, Bool.and_eq_true, Bool.or_eq_false_iff, Bool.and_eq_false_iff, Bool.not_eq_true', Bool.not_eq_false', Int.not_lt, Int.not_le, Decidable.not_not] at h6
        refine V.skip ?_
        refine V.bN ?_
        refine V.tN ?_
        refine V.region ?_
        refine V.run T_ok 1 rfl ?_
        first | refine V.addN rfl rfl rfl rfl rfl (by omega) (by omega) ?_ | refine V.run T_ok 1 rfl ?_
        refine V.run T_ok 1 rfl ?_
        refine V.nil ?_
        refine V.tN ?_
        first
          | exact ⟨⟨HG, FX, i + 1, r, ds, a3, a4, c3, c4, by omega, by omega, by omega, by omega, hds, rfl, rfl, rfl, rfl, F3, F4⟩, by show xs.length - ((i : Int) + 1).toNat < _; omega⟩
          | exact ⟨⟨HG, FX, i + 1, g7, ds ++ [x], a7, a10, c7, c10, by omega, by omega, by simp; omega, by rw [hfl, List.length_append]; omega, hds2, rfl, by rw [hfl]; rfl, rfl, rfl, by rw [hfl]; exact F7.sl (fun _ h => h.elim) ⟨rfl, by omega⟩, V.Grw.of F10 (by omega) (hltg10 (by simp)) (by omega)⟩, by show xs.length - ((i : Int) + 1).toNat < _; omega⟩
    ·
      try simp only [decide_eq_true_eq, decide_eq_false_iff_not, Bool.or_eq_true, Bool.and_eq_true, Bool.or_eq_false_iff, Bool.and_eq_false_iff, Bool.not_eq_true', Bool.not_eq_false', Int.not_lt, Int.not_le, Decidable.not_not] at g6_7
      refine V.run T_ok 7 rfl ?_
      refine V.nil ?_
      refine V.tN ?_
      refine V.condN rfl rfl ?_
      refine V.skip ?_
      refine V.bN ?_
      refine V.tN ?_
      refine V.region ?_
      refine V.run T_ok 1 rfl ?_
      first | refine V.addN rfl rfl rfl rfl rfl (by omega) (by omega) ?_ | refine V.run T_ok 1 rfl ?_
      refine V.run T_ok 1 rfl ?_
      refine V.nil ?_
      refine V.tN ?_
      first
        | exact ⟨⟨HG, FX, i + 1, r, ds, a3, a4, c3, c4, by omega, by omega, by omega, by omega, hds, rfl, rfl, rfl, rfl, F3, F4⟩, by show xs.length - ((i : Int) + 1).toNat < _; omega⟩
        | exact ⟨⟨HG, FX, i + 1, g7, ds ++ [x], a7, a10, c7, c10, by omega, by omega, by simp; omega, by rw [hfl, List.length_append]; omega, hds2, rfl, by rw [hfl]; rfl, rfl, rfl, by rw [hfl]; exact F7.sl (fun _ h => h.elim) ⟨rfl, by omega⟩, V.Grw.of F10 (by omega) (hltg10 (by simp)) (by omega)⟩, by show xs.length - ((i : Int) + 1).toNat < _; omega⟩
  ·
    try simp only [decide_eq_true_eq, decide_eq_false_iff_not, Bool.or_eq_true, Bool.and_eq_true, Bool.or_eq_false_iff, Bool.and_eq_false_iff, Bool.not_eq_true', Bool.not_eq_false', Int.not_lt, Int.not_le, Decidable.not_not] at h4
    refine V.exit ?_
    refine V.tX ?_
    refine V.tX ?_
    refine V.bE ?_
    refine V.tN ?_
    refine V.seq ?_
    refine V.region ?_
    refine V.run T_ok 1 rfl ?_
    refine V.call (open_spec F3 (fun k hk => by omega) (by omega)) rfl rfl rfl ?_
    rintro _ w13 ⟨k6, rfl, hk6, FR, G14⟩
    have z15 := V.Fr.size G14
    replace FX := FX.gr G14
    replace F3 := F3.gr G14
    replace F4 := F4.gr G14
    replace HG := HG.grow G14
    clear G14
    have Fd := F4.sl
    clear F4 F3
    refine V.run T_ok 1 rfl ?_
    refine V.nil ?_
    refine V.tN ?_
    refine V.seq ?_
    refine V.seq ?_
    refine V.region ?_
    refine V.run T_ok 1 rfl ?_
    refine V.nil ?_
    refine V.tN ?_
    refine V.block ?_
    obtain ⟨Dd, hDd, Fd⟩ : ∃ Dd : Nat → Prop, (∀ k, Dd k → k < k6) ∧ Sl actC w13 Dd a4 c4 ds := ⟨_, fun k h => by omega, Fd⟩
    obtain ⟨D6, hD6, FR⟩ : ∃ D6 : Nat → Prop, (∀ k, D6 k → k < k6) ∧ Rdr w13 k6 D6 (ds.flatMap actB) := ⟨_, fun k h => h.2, FR⟩
    refine V.loop (fun e v' => Gr w v' ∧ Sl actC v' Dd a4 c4 ds ∧ ∃ i : Nat, i ≤ ds.length ∧ e 4 = .slice a4 ds.length c4 ∧ e 6 = .pointer (some ⟨k6, 0, none⟩) ∧ e 7 = .int .i64 i ∧ Rdr v' k6 D6 ((ds.drop i).flatMap actB)) (fun e v' => ds.length - (V.intOf (e 7)).toNat) ?_ ?_
    ·
      exact ⟨HG, Fd, 0, Nat.zero_le _, rfl, rfl, rfl, FR⟩
    clear FX
    clear FR
    clear Fd
    clear HG
    rintro e v' ⟨HG, Fd, i, hid, h4, h6, h7, FR⟩
    have hmeas : (V.intOf (e 7)).toNat = i := by rw [h7]; simp [V.intOf]
    rw [hmeas]
    have hk6v := FR.lt
    refine V.knownC (t := 4) h4 ?_
    refine V.knownC (t := 6) h6 ?_
    refine V.knownC (t := 7) h7 ?_
    refine V.seq ?_
    refine V.seq ?_
    refine V.region ?_
    refine V.run T_ok 4 rfl ?_
    refine V.nil ?_
    refine V.tN ?_
    refine V.condT rfl (fun h11 => ?_) (fun h11 => ?_)
    ·
      try simp only [decide_eq_true_eq, decide_eq_false_iff_not, Bool.or_eq_true, Bool.and_eq_true, Bool.or_eq_false_iff, Bool.and_eq_false_iff, Bool.not_eq_true', Bool.not_eq_false', Int.not_lt, Int.not_le, Decidable.not_not] at h11
      refine V.skip ?_
      refine V.tN ?_
      refine V.seq ?_
      refine V.block ?_
      refine V.seq ?_
      refine V.region ?_
      refine V.run T_ok 2 rfl ?_
      refine V.elem T_ok Fd rfl rfl sz47 rfl rfl rfl rfl (by omega) (by omega) ?_
      rintro b1 o1 cs1 hx1 hb1 rfl hA1
      obtain ⟨d, hde⟩ : ∃ d, ds[(i : Int).toNat] = d := ⟨_, rfl⟩
      rw [hde] at hA1
      have hdr : ds.drop i = d :: ds.drop (i + 1) := by rw [← hde]; exact List.drop_eq_getElem_cons (by omega)
      obtain ⟨hdo, hdsz, hdn⟩ := hds d (hde ▸ List.getElem_mem hx1)
      obtain ⟨q1, q2, q3, q4⟩ := hdo
      rw [hdr, List.flatMap_cons] at FR
      refine V.loadA T_ok (o0 := o1) (off := 0) hA1 rfl rfl rfl rfl rfl ?_
      refine V.alloc zero47 rfl rfl rfl ?_
      rintro k8 w16 s18 s19 G17 Fk8
      have z20 := V.Fr.size G17
      replace Fd := Fd.gr G17
      replace FR := FR.gr G17
      replace HG := HG.grow G17
      clear G17
      try simp only [V.cellsL, V.spliceL] at Fk8
      refine V.storeO Fk8 rfl rfl rfl rfl sz47 rfl rfl rfl rfl ?_
      rintro w21 G22 z24 Fs23
      clear Fk8
      have z25 := V.Fr.size G22
      replace Fd := Fd.mv1 G22 (by first | omega | exact fun h => h | exact ⟨by omega, fun h => h⟩ | (intro h; first | (have := hD _ h; omega) | (have := hDd _ h; omega) | (have := hD6 _ h; omega)) | (refine ⟨by omega, ?_⟩; intro h; first | (have := hD _ h; omega) | (have := hDd _ h; omega) | (have := hD6 _ h; omega)))
      replace FR := FR.mv1 G22 (by first | omega | exact fun h => h | exact ⟨by omega, fun h => h⟩ | (intro h; first | (have := hD _ h; omega) | (have := hDd _ h; omega) | (have := hD6 _ h; omega)) | (refine ⟨by omega, ?_⟩; intro h; first | (have := hD _ h; omega) | (have := hDd _ h; omega) | (have := hD6 _ h; omega)))
      replace HG := HG.new1 G22 (by first | (refine Or.inr ?_; omega) | (refine Or.inl ?_; simp; done))
      clear G22
      have Fk8 := Fs23; clear Fs23
      simp only [V.spliceL, V.cellsL] at Fk8
      refine V.nil ?_
      refine V.tN ?_
      refine V.seq ?_
      refine V.region ?_
      refine V.run T_ok 1 rfl ?_
      refine V.loadO T_ok Fk8 rfl rfl rfl rfl rfl ?_
      refine V.nil ?_
      refine V.tN ?_
      refine V.block ?_
      refine V.seq ?_
      refine V.region ?_
      refine V.run T_ok 2 rfl ?_
      refine V.nil ?_
      refine V.tN ?_
      refine V.condT rfl (fun h18 => ?_) (fun h18 => ?_)
      ·
        try simp only [decide_eq_true_eq, decide_eq_false_iff_not, Bool.or_eq_true, Bool.and_eq_true, Bool.or_eq_false_iff, Bool.and_eq_false_iff, Bool.not_eq_true', Bool.not_eq_false', Int.not_lt, Int.not_le, Decidable.not_not] at h18
        rw [actB, if_pos h18] at FR
        refine V.seq ?_
        refine V.region ?_
        refine V.run T_ok 1 rfl ?_
        refine V.call (rnumber_spec (most := 9223372036854775807) FR (fun h => by have := hD6 _ h; omega)) rfl rfl rfl ?_
        rintro _ w26 ⟨rfl, FR, G27, _⟩
        have z28 := V.Fr.size G27
        replace Fd := Fd.mv1 G27 (by first | omega | exact fun h => h | exact ⟨by omega, fun h => h⟩ | (intro h; first | (have := hD _ h; omega) | (have := hDd _ h; omega) | (have := hD6 _ h; omega)) | (refine ⟨by omega, ?_⟩; intro h; first | (have := hD _ h; omega) | (have := hDd _ h; omega) | (have := hD6 _ h; omega)))
        replace Fk8 := Fk8.mv1 G27 (by first | omega | exact fun h => h | exact ⟨by omega, fun h => h⟩ | (intro h; first | (have := hD _ h; omega) | (have := hDd _ h; omega) | (have := hD6 _ h; omega)) | (refine ⟨by omega, ?_⟩; intro h; first | (have := hD _ h; omega) | (have := hDd _ h; omega) | (have := hD6 _ h; omega)))
        replace HG := HG.new1 G27 (by first | (refine Or.inr ?_; omega) | (refine Or.inl ?_; simp; done))
        clear G27
        rw [rdN_num (by omega) (by omega)] at FR ⊢
        refine V.run T_ok 5 rfl ?_
        refine V.nil ?_
        refine V.tN ?_
        refine V.seq ?_
        refine V.region ?_
        refine V.run T_ok 3 rfl ?_
        refine V.splitF (j := 2) (t := 92) rfl rfl (by rfl) ?_
        refine V.run T_ok 2 rfl ?_
        refine V.yes rfl rfl rfl ?_
        refine V.loadO T_ok Fk8 rfl rfl rfl rfl rfl ?_
        refine V.run T_ok 2 rfl ?_
        refine V.nil ?_
        refine V.tN ?_
        refine V.condN rfl (by (simp; omega)) ?_
        refine V.skip ?_
        refine V.bN ?_
        refine V.bN ?_
        refine V.tN ?_
        refine V.region ?_
        refine V.run T_ok 1 rfl ?_
        first | refine V.addN rfl rfl rfl rfl rfl (by omega) (by omega) ?_ | refine V.run T_ok 1 rfl ?_
        refine V.run T_ok 1 rfl ?_
        refine V.nil ?_
        refine V.tN ?_
        exact ⟨⟨HG, Fd, i + 1, by omega, rfl, rfl, rfl, FR⟩, by show ds.length - ((i : Int) + 1).toNat < _; omega⟩
      ·
        try simp only [decide_eq_true_eq, decide_eq_false_iff_not, Bool.or_eq_true, Bool.and_eq_true, Bool.or_eq_false_iff, Bool.and_eq_false_iff, Bool.not_eq_true', Bool.not_eq_false', Int.not_lt, Int.not_le, Decidable.not_not] at h18
        refine V.seq ?_
        refine V.region ?_
        refine V.run T_ok 2 rfl ?_
        refine V.nil ?_
        refine V.tN ?_
        refine V.condT rfl (fun h22 => ?_) (fun h22 => ?_)
        ·
          try simp only [decide_eq_true_eq, decide_eq_false_iff_not, Bool.or_eq_true, Bool.and_eq_true, Bool.or_eq_false_iff, Bool.and_eq_false_iff, Bool.not_eq_true', Bool.not_eq_false', Int.not_lt, Int.not_le, Decidable.not_not] at h22
          rw [actB, if_neg h18, if_pos h22] at FR
          refine V.seq ?_
          refine V.region ?_
          refine V.run T_ok 1 rfl ?_
          refine V.call (rflag_spec FR (fun h => by have := hD6 _ h; omega)) rfl rfl rfl ?_
          rintro _ w29 ⟨rfl, FR, G30, _⟩
          have z31 := V.Fr.size G30
          replace Fd := Fd.mv1 G30 (by first | omega | exact fun h => h | exact ⟨by omega, fun h => h⟩ | (intro h; first | (have := hD _ h; omega) | (have := hDd _ h; omega) | (have := hD6 _ h; omega)) | (refine ⟨by omega, ?_⟩; intro h; first | (have := hD _ h; omega) | (have := hDd _ h; omega) | (have := hD6 _ h; omega)))
          replace Fk8 := Fk8.mv1 G30 (by first | omega | exact fun h => h | exact ⟨by omega, fun h => h⟩ | (intro h; first | (have := hD _ h; omega) | (have := hDd _ h; omega) | (have := hD6 _ h; omega)) | (refine ⟨by omega, ?_⟩; intro h; first | (have := hD _ h; omega) | (have := hDd _ h; omega) | (have := hD6 _ h; omega)))
          replace HG := HG.new1 G30 (by first | (refine Or.inr ?_; omega) | (refine Or.inl ?_; simp; done))
          clear G30
          rw [rdF_flag] at FR ⊢
          refine V.run T_ok 5 rfl ?_
          refine V.nil ?_
          refine V.tN ?_
          refine V.seq ?_
          refine V.region ?_
          refine V.run T_ok 3 rfl ?_
          refine V.splitF (j := 2) (t := 107) rfl rfl (by rfl) ?_
          refine V.run T_ok 2 rfl ?_
          refine V.yes rfl rfl rfl ?_
          refine V.loadO T_ok Fk8 rfl rfl rfl rfl rfl ?_
          refine V.run T_ok 2 rfl ?_
          refine V.nil ?_
          refine V.tN ?_
          refine V.condN rfl (by simp) ?_
          refine V.skip ?_
          refine V.bN ?_
          refine V.bN ?_
          refine V.tN ?_
          refine V.region ?_
          refine V.run T_ok 1 rfl ?_
          first | refine V.addN rfl rfl rfl rfl rfl (by omega) (by omega) ?_ | refine V.run T_ok 1 rfl ?_
          refine V.run T_ok 1 rfl ?_
          refine V.nil ?_
          refine V.tN ?_
          exact ⟨⟨HG, Fd, i + 1, by omega, rfl, rfl, rfl, FR⟩, by show ds.length - ((i : Int) + 1).toNat < _; omega⟩
        ·
          try simp only [decide_eq_true_eq, decide_eq_false_iff_not, Bool.or_eq_true, Bool.and_eq_true, Bool.or_eq_false_iff, Bool.and_eq_false_iff, Bool.not_eq_true', Bool.not_eq_false', Int.not_lt, Int.not_le, Decidable.not_not] at h22
          rw [actB, if_neg h18, if_neg h22] at FR
          refine V.seq ?_
          refine V.region ?_
          refine V.run T_ok 2 rfl ?_
          refine V.loadO T_ok Fk8 rfl rfl rfl rfl rfl ?_
          refine V.run T_ok 1 rfl ?_
          refine V.call (rtext_spec (most := d.s.size) FR (fun h => by have := hD6 _ h; omega)) rfl rfl rfl ?_
          rintro _ w32 ⟨rfl, FR, G33, _⟩
          have z34 := V.Fr.size G33
          replace Fd := Fd.mv1 G33 (by first | omega | exact fun h => h | exact ⟨by omega, fun h => h⟩ | (intro h; first | (have := hD _ h; omega) | (have := hDd _ h; omega) | (have := hD6 _ h; omega)) | (refine ⟨by omega, ?_⟩; intro h; first | (have := hD _ h; omega) | (have := hDd _ h; omega) | (have := hD6 _ h; omega)))
          replace Fk8 := Fk8.mv1 G33 (by first | omega | exact fun h => h | exact ⟨by omega, fun h => h⟩ | (intro h; first | (have := hD _ h; omega) | (have := hDd _ h; omega) | (have := hD6 _ h; omega)) | (refine ⟨by omega, ?_⟩; intro h; first | (have := hD _ h; omega) | (have := hDd _ h; omega) | (have := hD6 _ h; omega)))
          replace HG := HG.new1 G33 (by first | (refine Or.inr ?_; omega) | (refine Or.inl ?_; simp; done))
          clear G33
          have hdd := V.length_data d.s
          rw [rdT_text (by omega) (by omega)] at FR ⊢
          refine V.run T_ok 5 rfl ?_
          refine V.nil ?_
          refine V.tN ?_
          refine V.seq ?_
          refine V.region ?_
          refine V.run T_ok 3 rfl ?_
          refine V.splitF (j := 2) (t := 77) rfl rfl (by rfl) ?_
          refine V.run T_ok 2 rfl ?_
          refine V.yes rfl rfl rfl ?_
          refine V.loadO T_ok Fk8 rfl rfl rfl rfl rfl ?_
          refine V.run T_ok 2 rfl ?_
          refine V.nil ?_
          refine V.tN ?_
          refine V.condN rfl (by (simp [V.S_of])) ?_
          refine V.skip ?_
          refine V.bN ?_
          refine V.bN ?_
          refine V.tN ?_
          refine V.region ?_
          refine V.run T_ok 1 rfl ?_
          first | refine V.addN rfl rfl rfl rfl rfl (by omega) (by omega) ?_ | refine V.run T_ok 1 rfl ?_
          refine V.run T_ok 1 rfl ?_
          refine V.nil ?_
          refine V.tN ?_
          exact ⟨⟨HG, Fd, i + 1, by omega, rfl, rfl, rfl, FR⟩, by show ds.length - ((i : Int) + 1).toNat < _; omega⟩
    ·
      try simp only [decide_eq_true_eq, decide_eq_false_iff_not, Bool.or_eq_true, Bool.and_eq_true, Bool.or_eq_false_iff, Bool.and_eq_false_iff, Bool.not_eq_true', Bool.not_eq_false', Int.not_lt, Int.not_le, Decidable.not_not] at h11
      have hie : i = ds.length := by omega
      subst hie
      rw [List.drop_length, List.flatMap_nil] at FR
      refine V.exit ?_
      refine V.tX ?_
      refine V.tX ?_
      refine V.bE ?_
      refine V.tN ?_
      refine V.seq ?_
      refine V.region ?_
      refine V.call (alive_spec) rfl rfl rfl ?_
      rintro _ w35 ⟨rfl, G36⟩
      have z37 := V.Fr.size G36
      replace Fd := Fd.gr G36
      replace FR := FR.gr G36
      replace HG := HG.grow G36
      clear G36
      refine V.run T_ok 1 rfl ?_
      refine V.splitT (j := 1) (t := 114) rfl rfl (by rfl) ?_
      refine V.run T_ok 1 rfl ?_
      refine V.yes rfl rfl rfl ?_
      refine V.call (rend_spec FR) rfl rfl rfl ?_
      rintro _ w35_ ⟨rfl, rfl⟩
      refine V.run T_ok 3 rfl ?_
      refine V.splitT (j := 6) (t := 119) rfl rfl (by rfl) ?_
      refine V.run T_ok 1 rfl ?_
      refine V.yes rfl rfl rfl ?_
      refine V.call (rleft_spec FR) rfl rfl rfl ?_
      rintro _ w35_ ⟨rfl, rfl⟩
      refine V.run T_ok 3 rfl ?_
      refine V.nil ?_
      refine V.tN ?_
      refine V.ret ?_
      refine V.done rfl ?_
      exact ⟨rfl, HG⟩

end Go.Proofs.Ytbbfjcobjbopmaa
