/- Proved here: walks: what functions of this seat's program return and what they leave of memory, each as a contract. Conditions: stated at each theorem. -/
import Derived.Test.YtbfaobkahgadaaaMs
namespace Go.Proofs.Ytbfaobkahgadaaa
set_option linter.unusedVariables false
set_option linter.unusedSimpArgs false
open Go
open V (Bytes Meets Env Sl Own Gr Fr Cells S)
theorem V.flat_span : V.Flat (V.Cod.pair V.Cod.str V.Cod.str) := (V.flat_pair (V.flat_str) V.flat_str)

theorem V.flat_part : V.Flat (V.Cod.pair (V.Cod.int .i64) (V.Cod.pair V.Cod.str V.Cod.str)) := (V.flat_pair (V.flat_int .i64) V.flat_span)


/-- where the first one above a key is -/
def ixF (l : List ByteArray) (key : ByteArray) : Int := if l.any (fun b => decide (key < b)) = true then (l.findIdx (fun b => decide (key < b)) : Int) else -1
theorem ixF_at {l : List ByteArray} {key : ByteArray} {i : Nat} (h : ∀ j (hj : j < l.length), j < i → ¬ key < l[j]) (hi : i < l.length) (hk : key < l[i]) : ixF l key = i := by
  unfold ixF
  rw [if_pos (List.any_eq_true.2 ⟨l[i], List.getElem_mem hi, by simpa using hk⟩)]
  congr 1
  refine (List.findIdx_eq hi).2 ⟨by simpa using hk, fun j hj => by simpa using h j (by omega) hj⟩
theorem ixF_no {l : List ByteArray} {key : ByteArray} (h : ∀ j (hj : j < l.length), ¬ key < l[j]) : ixF l key = -1 := by
  unfold ixF
  rw [if_neg]
  intro h2
  obtain ⟨b, hb, hb2⟩ := List.any_eq_true.1 h2
  obtain ⟨j, hj, rfl⟩ := List.mem_iff_getElem.1 hb
  exact h j hj (by simpa using hb2)

set_option maxHeartbeats 4000000 in
set_option maxRecDepth 10000 in
theorem gt_spec {w : World} {k : Nat} {key : ByteArray} (Fk : Cells w k [.string key] 9) {b : ByteArray}  :
    Meets Try.prog 25 [.string b, .pointer (some ⟨k, 0, none⟩)] w fun r w' => r = .bool (decide (key < b)) ∧ w = w' := by
  refine V.enter (n := 7) Try.func25 rfl rfl (by decide) rfl ?_
  refine V.seq ?_
  refine V.region ?_
  refine V.run T_ok 1 rfl ?_
  refine V.nil ?_
  refine V.tN ?_
  refine V.seq ?_
  refine V.region ?_
  refine V.run T_ok 1 rfl ?_
  refine V.loadO T_ok Fk rfl rfl rfl rfl rfl ?_
  refine V.run T_ok 2 rfl ?_
  refine V.nil ?_
  refine V.tN ?_
  refine V.ret ?_
  refine V.done rfl ?_
  exact ⟨congrArg Value.bool (by (try simp only [V.bl]); grind), rfl⟩

set_option maxHeartbeats 4000000 in
set_option maxRecDepth 10000 in
theorem index_spec {w : World} {k : Nat} {key : ByteArray} (Fk : Cells w k [.string key] 9) {D_l : Nat → Prop} {c_l : Nat} {a_l : Option Addr} {l : List ByteArray} (F_l : Sl V.Cod.str w D_l a_l c_l l)  :
    Meets Try.prog 24 [.slice a_l l.length c_l, .func (.func 25) #[] #[.pointer (some ⟨k, 0, none⟩)]] w fun r w' => r = .int .i64 (ixF l key) ∧ w = w' := by
  refine V.enter (n := 19) Try.func24 rfl rfl (by decide) rfl ?_
  refine V.seq ?_
  refine V.region ?_
  refine V.run T_ok 1 rfl ?_
  refine V.nil ?_
  refine V.tN ?_
  refine V.seq ?_
  refine V.seq ?_
  refine V.region ?_
  refine V.run T_ok 3 rfl ?_
  refine V.nil ?_
  refine V.tN ?_
  refine V.block ?_
  have hl63 := F_l.len63
  refine V.loopM (fun m e v2 => w = v2 ∧ ∃ (i : Nat) , m = l.length - i ∧ i ≤ l.length ∧ (∀ j (hj : j < l.length), j < i → ¬ key < l[j]) ∧ e 0 = .slice a_l l.length c_l ∧ e 1 = .func (.func 25) #[] #[.pointer (some ⟨k, 0, none⟩)] ∧ e 7 = .int .i64 (l.length : Int) ∧ e 8 = .int .i64 (i : Int)) ?_ ?_
  ·
    exact ⟨_, rfl, (0), rfl, (by omega), (fun j hj h => absurd h (Nat.not_lt_zero _)), rfl, rfl, rfl, rfl⟩
  rintro _ e v2 ⟨rfl, i, rfl, hi, hno, he0_0, he0_1, he0_7, he0_8⟩
  refine V.knownC (t := 0) he0_0 ?_
  refine V.knownC (t := 1) he0_1 ?_
  refine V.knownC (t := 7) he0_7 ?_
  refine V.knownC (t := 8) he0_8 ?_
  refine V.seq ?_
  refine V.region ?_
  refine V.run T_ok 1 rfl ?_
  refine V.nil ?_
  refine V.tN ?_
  refine V.seq ?_
  refine V.condT rfl (fun h2 => ?_) (fun h2 => ?_)
  ·
    try simp only [decide_eq_true_eq, decide_eq_false_iff_not, Bool.or_eq_true, Bool.and_eq_true, Bool.or_eq_false_iff, Bool.and_eq_false_iff, Bool.not_eq_true', Bool.not_eq_false', Int.not_lt, Int.not_le, Decidable.not_not, V.u8eq, V.S_inj, V.S_lit, V.S_lit2, V.bl] at h2
    try simp only [V.mk0, V.mk1, V.mk2, V.mk3] at h2
    refine V.skip ?_
    refine V.tN ?_
    refine V.seq ?_
    refine V.block ?_
    refine V.seq ?_
    refine V.region ?_
    refine V.run T_ok 2 rfl ?_
    refine V.nil ?_
    refine V.tN ?_
    refine V.seq ?_
    refine V.region ?_
    refine V.run T_ok 3 rfl ?_
    refine V.elem T_ok F_l rfl rfl sz9 rfl rfl rfl rfl (by first | omega | (simp only [List.length_take, List.length_drop, List.length_append, List.length_cons, List.length_nil, List.length_replicate, List.length_set, V.length_data, V.S_size]; omega)) (by first | omega | (simp only [List.length_take, List.length_drop, List.length_append, List.length_cons, List.length_nil, List.length_replicate, List.length_set, V.length_data, V.S_size]; omega)) ?_
    rintro b3 o4 cs5 hx6 hb7 hR10 hA8
    obtain ⟨x9, hx9⟩ : ∃ z', l[((i : Int)).toNat] = z' := ⟨_, rfl⟩
    rw [hx9] at hR10
    obtain rfl := hR10
    try simp only [Int.toNat_natCast] at hx9 hx6
    refine V.loadA T_ok (o0 := o4) (off := 0) hA8 rfl rfl rfl rfl rfl ?_
    refine V.call (gt_spec (b := x9) (Fk := Fk)) rfl rfl rfl ?_
    rintro _ w_ ⟨rfl, rfl⟩
    refine V.nil ?_
    refine V.tN ?_
    refine V.condT rfl (fun h4 => ?_) (fun h4 => ?_)
    ·
      try simp only [decide_eq_true_eq, decide_eq_false_iff_not, Bool.or_eq_true, Bool.and_eq_true, Bool.or_eq_false_iff, Bool.and_eq_false_iff, Bool.not_eq_true', Bool.not_eq_false', Int.not_lt, Int.not_le, Decidable.not_not, V.u8eq, V.S_inj, V.S_lit, V.S_lit2, V.bl] at h4
      try simp only [V.mk0, V.mk1, V.mk2, V.mk3] at h4
      refine V.seq ?_
      refine V.region ?_
      refine V.run T_ok 2 rfl ?_
      refine V.nil ?_
      refine V.tN ?_
      refine V.ret ?_
      refine V.bR ?_
      refine V.tR ?_
      refine V.tR ?_
      refine V.bR ?_
      refine V.tR ?_
      refine V.done rfl ?_
      exact ⟨congrArg (Value.int .i64) (ixF_at hno (by omega) (by subst_vars; assumption)).symm, rfl⟩
    ·
      try simp only [decide_eq_true_eq, decide_eq_false_iff_not, Bool.or_eq_true, Bool.and_eq_true, Bool.or_eq_false_iff, Bool.and_eq_false_iff, Bool.not_eq_true', Bool.not_eq_false', Int.not_lt, Int.not_le, Decidable.not_not, V.u8eq, V.S_inj, V.S_lit, V.S_lit2, V.bl] at h4
      try simp only [V.mk0, V.mk1, V.mk2, V.mk3] at h4
      refine V.skip ?_
      refine V.bN ?_
      refine V.tN ?_
      refine V.region ?_
      refine V.addN rfl rfl rfl rfl rfl (by first | omega | (simp only [List.length_take, List.length_drop, List.length_append, List.length_cons, List.length_nil, List.length_replicate, List.length_set, V.length_data, V.S_size]; omega)) (by first | omega | (simp only [List.length_take, List.length_drop, List.length_append, List.length_cons, List.length_nil, List.length_replicate, List.length_set, V.length_data, V.S_size]; omega)) ?_
      refine V.run T_ok 1 rfl ?_
      refine V.nil ?_
      refine V.tN ?_
      exact ⟨_, (by omega), rfl, (i + 1), rfl, (by omega), (fun j hj h => by rcases Nat.lt_or_ge j i with h2 | h2; exact hno j hj h2; obtain rfl : j = i := (by omega); subst_vars; assumption), rfl, rfl, rfl, rfl⟩
  ·
    try simp only [decide_eq_true_eq, decide_eq_false_iff_not, Bool.or_eq_true, Bool.and_eq_true, Bool.or_eq_false_iff, Bool.and_eq_false_iff, Bool.not_eq_true', Bool.not_eq_false', Int.not_lt, Int.not_le, Decidable.not_not, V.u8eq, V.S_inj, V.S_lit, V.S_lit2, V.bl] at h2
    try simp only [V.mk0, V.mk1, V.mk2, V.mk3] at h2
    refine V.exit ?_
    refine V.tX ?_
    refine V.tX ?_
    refine V.bE ?_
    refine V.tN ?_
    refine V.seq ?_
    refine V.region ?_
    refine V.run T_ok 1 rfl ?_
    refine V.nil ?_
    refine V.tN ?_
    refine V.ret ?_
    refine V.done rfl ?_
    exact ⟨congrArg (Value.int .i64) (ixF_no fun j hj => hno j hj (by omega)).symm, rfl⟩

set_option maxHeartbeats 4000000 in
set_option maxRecDepth 10000 in
theorem grow_spec {w : World}  {n : Int} (h0 : 0 ≤ n) (hm : n ≤ 1099511627776) :
    Meets Try.prog 30 [.slice none 0 0, .int .i64 n] w fun r w' => ∃ (ra1 : Option Addr) (rc1 : Nat), r = .slice ra1 ([] : List ByteArray).length rc1 ∧ V.Row V.Cod.str 9 w' V.None' w.heap.size w'.heap.size ra1 rc1 ([] : List ByteArray) ∧ Gr w w' := by
  have HG := V.Fr.refl [] w
  refine V.enter (n := 27) Try.func30 rfl rfl (by decide) rfl ?_
  refine V.seq ?_
  refine V.region ?_
  refine V.run T_ok 1 rfl ?_
  refine V.nil ?_
  refine V.tN ?_
  refine V.seq ?_
  refine V.seq ?_
  refine V.region ?_
  refine V.run T_ok 2 rfl ?_
  refine V.nil ?_
  refine V.tN ?_
  refine V.condN rfl (by (exact decide_eq_false (by omega))) ?_
  refine V.skip ?_
  refine V.tN ?_
  refine V.seq ?_
  refine V.seq ?_
  refine V.region ?_
  refine V.run T_ok 2 rfl ?_
  refine V.step rfl rfl (V.cap_run rfl Try.underlying22 rfl) ?_
  refine V.run T_ok 2 rfl ?_
  refine V.subN rfl rfl rfl rfl rfl (by first | omega | (simp only [List.length_take, List.length_drop, List.length_append, List.length_cons, List.length_nil, List.length_replicate, List.length_set, V.length_data, V.S_size]; omega)) (by first | omega | (simp only [List.length_take, List.length_drop, List.length_append, List.length_cons, List.length_nil, List.length_replicate, List.length_set, V.length_data, V.S_size]; omega)) ?_
  refine V.subN rfl rfl rfl rfl rfl (by first | omega | (simp only [List.length_take, List.length_drop, List.length_append, List.length_cons, List.length_nil, List.length_replicate, List.length_set, V.length_data, V.S_size]; omega)) (by first | omega | (simp only [List.length_take, List.length_drop, List.length_append, List.length_cons, List.length_nil, List.length_replicate, List.length_set, V.length_data, V.S_size]; omega)) ?_
  refine V.run T_ok 1 rfl ?_
  refine V.nil ?_
  refine V.tN ?_
  refine V.seq ?_
  refine V.region ?_
  refine V.run T_ok 2 rfl ?_
  refine V.nil ?_
  refine V.tN ?_
  refine V.condT rfl (fun h4 => ?_) (fun h4 => ?_)
  ·
    try simp only [decide_eq_true_eq, decide_eq_false_iff_not, Bool.or_eq_true, Bool.and_eq_true, Bool.or_eq_false_iff, Bool.and_eq_false_iff, Bool.not_eq_true', Bool.not_eq_false', Int.not_lt, Int.not_le, Decidable.not_not, V.u8eq, V.S_inj, V.S_lit, V.S_lit2, V.bl] at h4
    try simp only [V.mk0, V.mk1, V.mk2, V.mk3] at h4
    refine V.region ?_
    refine V.run T_ok 2 rfl ?_
    refine V.step rfl rfl (V.cap_run rfl Try.underlying22 rfl) ?_
    refine V.step rfl rfl (V.cutN_run T_ok rfl rfl sz9 rfl rfl) ?_
    refine V.run T_ok 1 rfl ?_
    refine V.growNil (C := V.Cod.str) elT22_3 Try.underlying3 (by decide) rfl rfl rfl rfl rfl (by omega) (by omega) (by simp only [maxLen]; omega) ?_
    rintro c1 w2 G3 F4
    have z5 := V.Fr.size G3
    replace HG := HG.grow G3
    clear G3
    refine V.run T_ok 2 rfl ?_
    refine V.step rfl rfl (V.cutZ_run T_ok rfl rfl sz9 rfl rfl) ?_
    refine V.run T_ok 1 rfl ?_
    refine V.nil ?_
    refine V.tN ?_
    refine V.seq ?_
    refine V.region ?_
    refine V.run T_ok 2 rfl ?_
    refine V.nil ?_
    refine V.tN ?_
    refine V.ret ?_
    refine V.done rfl ?_
    exact ⟨(some ⟨w.heap.size, 0, none⟩), c1, (by first | rfl | simp only [List.length_set]), (by first | exact F4 | exact F4.mono (fun _ h => h) (by omega) (by omega)), HG⟩
  ·
    try simp only [decide_eq_true_eq, decide_eq_false_iff_not, Bool.or_eq_true, Bool.and_eq_true, Bool.or_eq_false_iff, Bool.and_eq_false_iff, Bool.not_eq_true', Bool.not_eq_false', Int.not_lt, Int.not_le, Decidable.not_not, V.u8eq, V.S_inj, V.S_lit, V.S_lit2, V.bl] at h4
    try simp only [V.mk0, V.mk1, V.mk2, V.mk3] at h4
    refine V.skip ?_
    refine V.tN ?_
    refine V.seq ?_
    refine V.region ?_
    refine V.run T_ok 2 rfl ?_
    refine V.nil ?_
    refine V.tN ?_
    refine V.ret ?_
    refine V.done rfl ?_
    exact ⟨none, 0, (by first | rfl | simp only [List.length_set]), V.Row.nil, HG⟩


theorem flat_le {xs : List (List ByteArray)} (i : Nat) : (xs.take i).flatten.length ≤ xs.flatten.length := by
  conv => rhs; rw [← List.take_append_drop i xs, List.flatten_append, List.length_append]
  omega
theorem flat_app {xs : List (List ByteArray)} {i : Nat} {x : List ByteArray} (hi : i < xs.length) (hx : xs[i] = x) : (xs.take i).flatten ++ x = (xs.take (i + 1)).flatten := by
  subst hx; rw [List.take_succ_eq_append_getElem hi, List.flatten_append]; simp
theorem flat_len {xs : List (List ByteArray)} {i : Nat} {x : List ByteArray} (hi : i < xs.length) (hx : xs[i] = x) : (xs.take i).flatten.length + x.length = (xs.take (i + 1)).flatten.length := by
  rw [← flat_app hi hx, List.length_append]
theorem flat_all {xs : List (List ByteArray)} {i : Nat} (hi : xs.length ≤ i) : (xs.take i).flatten = xs.flatten := by rw [List.take_of_length_le hi]

set_option maxHeartbeats 4000000 in
set_option maxRecDepth 10000 in
theorem concat_spec {w : World}  {D_xs : Nat → Prop} {c_xs : Nat} {a_xs : Option Addr} {xs : List (List ByteArray)} (F_xs : Sl V.Cod.str.sl w D_xs a_xs c_xs xs) (hD_xs : ∀ k, D_xs k → k < w.heap.size) (hlen : xs.flatten.length ≤ 1099511627776) :
    Meets Try.prog 22 [.slice a_xs xs.length c_xs] w fun r w' => ∃ (ra2 : Option Addr) (rc2 : Nat), r = .slice ra2 xs.flatten.length rc2 ∧ V.Row V.Cod.str 9 w' V.None' w.heap.size w'.heap.size ra2 rc2 xs.flatten ∧ Gr w w' := by
  have HG := V.Fr.refl [] w
  refine V.enter (n := 36) Try.func22 rfl rfl (by decide) rfl ?_
  refine V.seq ?_
  refine V.region ?_
  refine V.run T_ok 1 rfl ?_
  refine V.nil ?_
  refine V.tN ?_
  refine V.seq ?_
  refine V.region ?_
  refine V.run T_ok 1 rfl ?_
  refine V.nil ?_
  refine V.tN ?_
  refine V.seq ?_
  refine V.seq ?_
  refine V.region ?_
  refine V.run T_ok 3 rfl ?_
  refine V.nil ?_
  refine V.tN ?_
  refine V.block ?_
  have hl63 := F_xs.len63
  refine V.loopM (fun m e v2 => w = v2 ∧ ∃ (i : Nat) , m = xs.length - i ∧ i ≤ xs.length ∧ e 0 = .slice a_xs xs.length c_xs ∧ e 3 = .int .i64 ((xs.take i).flatten.length : Int) ∧ e 9 = .slice a_xs xs.length c_xs ∧ e 10 = .int .i64 (xs.length : Int) ∧ e 11 = .int .i64 (i : Int)) ?_ ?_
  ·
    exact ⟨_, rfl, (0), rfl, (by omega), rfl, rfl, rfl, rfl, rfl⟩
  rintro _ e v2 ⟨rfl, i, rfl, hi, he0_0, he0_3, he0_9, he0_10, he0_11⟩
  have hfm0 := flat_le (xs := xs) i
  refine V.knownC (t := 0) he0_0 ?_
  refine V.knownC (t := 3) he0_3 ?_
  refine V.knownC (t := 9) he0_9 ?_
  refine V.knownC (t := 10) he0_10 ?_
  refine V.knownC (t := 11) he0_11 ?_
  refine V.seq ?_
  refine V.region ?_
  refine V.run T_ok 1 rfl ?_
  refine V.nil ?_
  refine V.tN ?_
  refine V.seq ?_
  refine V.condT rfl (fun h3 => ?_) (fun h3 => ?_)
  ·
    try simp only [decide_eq_true_eq, decide_eq_false_iff_not, Bool.or_eq_true, Bool.and_eq_true, Bool.or_eq_false_iff, Bool.and_eq_false_iff, Bool.not_eq_true', Bool.not_eq_false', Int.not_lt, Int.not_le, Decidable.not_not, V.u8eq, V.S_inj, V.S_lit, V.S_lit2, V.bl] at h3
    try simp only [V.mk0, V.mk1, V.mk2, V.mk3] at h3
    refine V.skip ?_
    refine V.tN ?_
    refine V.seq ?_
    refine V.block ?_
    refine V.seq ?_
    refine V.region ?_
    refine V.elem T_ok F_xs rfl rfl sz22 rfl rfl rfl rfl (by first | omega | (simp only [List.length_take, List.length_drop, List.length_append, List.length_cons, List.length_nil, List.length_replicate, List.length_set, V.length_data, V.S_size]; omega)) (by first | omega | (simp only [List.length_take, List.length_drop, List.length_append, List.length_cons, List.length_nil, List.length_replicate, List.length_set, V.length_data, V.S_size]; omega)) ?_
    rintro b3 o4 cs5 hx6 hb7 hR13 hA8
    obtain ⟨x9, hx9⟩ : ∃ z', xs[((i : Int)).toNat] = z' := ⟨_, rfl⟩
    rw [hx9] at hR13
    obtain ⟨a10, c11, rfl, F12⟩ := hR13
    try simp only [Int.toNat_natCast] at hx9 hx6
    refine V.loadA T_ok (o0 := o4) (off := 0) hA8 rfl rfl rfl rfl rfl ?_
    refine V.run T_ok 1 rfl ?_
    refine V.nil ?_
    refine V.tN ?_
    refine V.seq ?_
    refine V.region ?_
    refine V.run T_ok 3 rfl ?_
    have hfl := flat_len (i := i) (by omega) hx9
    have hfm := flat_le (xs := xs) (i + 1)
    refine V.addN rfl rfl rfl rfl rfl (by first | omega | (simp only [List.length_take, List.length_drop, List.length_append, List.length_cons, List.length_nil, List.length_replicate, List.length_set, V.length_data, V.S_size]; omega)) (by first | omega | (simp only [List.length_take, List.length_drop, List.length_append, List.length_cons, List.length_nil, List.length_replicate, List.length_set, V.length_data, V.S_size]; omega)) ?_
    refine V.run T_ok 1 rfl ?_
    refine V.nil ?_
    refine V.tN ?_
    refine V.seq ?_
    refine V.region ?_
    refine V.run T_ok 2 rfl ?_
    refine V.nil ?_
    refine V.tN ?_
    refine V.condN rfl (by (exact decide_eq_false (by omega))) ?_
    refine V.skip ?_
    refine V.bN ?_
    refine V.tN ?_
    refine V.region ?_
    refine V.addN rfl rfl rfl rfl rfl (by first | omega | (simp only [List.length_take, List.length_drop, List.length_append, List.length_cons, List.length_nil, List.length_replicate, List.length_set, V.length_data, V.S_size]; omega)) (by first | omega | (simp only [List.length_take, List.length_drop, List.length_append, List.length_cons, List.length_nil, List.length_replicate, List.length_set, V.length_data, V.S_size]; omega)) ?_
    refine V.run T_ok 1 rfl ?_
    refine V.nil ?_
    refine V.tN ?_
    exact ⟨_, (by omega), rfl, (i + 1), rfl, (by omega), rfl, (congrArg (Value.int .i64) (by omega)), rfl, rfl, rfl⟩
  ·
    try simp only [decide_eq_true_eq, decide_eq_false_iff_not, Bool.or_eq_true, Bool.and_eq_true, Bool.or_eq_false_iff, Bool.and_eq_false_iff, Bool.not_eq_true', Bool.not_eq_false', Int.not_lt, Int.not_le, Decidable.not_not, V.u8eq, V.S_inj, V.S_lit, V.S_lit2, V.bl] at h3
    try simp only [V.mk0, V.mk1, V.mk2, V.mk3] at h3
    refine V.exit ?_
    refine V.tX ?_
    refine V.tX ?_
    refine V.bE ?_
    refine V.tN ?_
    refine V.seq ?_
    refine V.region ?_
    refine V.run T_ok 1 rfl ?_
    refine V.call (grow_spec (n := ((xs.take i).flatten.length : Int)) (by omega) (by omega)) rfl rfl rfl ?_
    rintro _ w17 ⟨a14, c15, rfl, F16, G18⟩
    have z19 := V.Fr.size G18
    try replace F_xs := F_xs.gr G18
    replace HG := HG.grow G18
    clear G18
    refine V.run T_ok 1 rfl ?_
    refine V.nil ?_
    refine V.tN ?_
    refine V.seq ?_
    refine V.seq ?_
    refine V.region ?_
    refine V.run T_ok 3 rfl ?_
    refine V.nil ?_
    refine V.tN ?_
    refine V.block ?_
    refine V.loopM (fun m e v21 => Fr [] w v21 ∧ w17.heap.size ≤ v21.heap.size ∧ Sl V.Cod.str.sl v21 D_xs a_xs c_xs xs ∧ ∃ (i : Nat) (ra3 : Option Addr) (rc3 : Nat), m = xs.length - i ∧ i ≤ xs.length ∧ V.Row V.Cod.str 9 v21 V.None' w.heap.size v21.heap.size ra3 rc3 ((xs.take i).flatten) ∧ e 6 = .slice ra3 ((xs.take i).flatten).length rc3 ∧ e 25 = .slice a_xs xs.length c_xs ∧ e 26 = .int .i64 (xs.length : Int) ∧ e 27 = .int .i64 (i : Int)) ?_ ?_
    ·
      exact ⟨_, HG, (by omega), F_xs, (0), a14, c15, rfl, (by omega), (by first | exact F16 | exact F16.mono (fun _ h => h) (by omega) (by omega)), rfl, rfl, rfl, rfl⟩
    try clear F16
    clear HG F_xs
    rintro _ e v21 ⟨HG, z22, F_xs, i, ra3, rc3, rfl, hi2, rF3, he1_6, he1_25, he1_26, he1_27⟩
    have hfm0 := flat_le (xs := xs) i
    refine V.knownC (t := 6) he1_6 ?_
    refine V.knownC (t := 25) he1_25 ?_
    refine V.knownC (t := 26) he1_26 ?_
    refine V.knownC (t := 27) he1_27 ?_
    refine V.seq ?_
    refine V.region ?_
    refine V.run T_ok 1 rfl ?_
    refine V.nil ?_
    refine V.tN ?_
    refine V.seq ?_
    refine V.condT rfl (fun h11 => ?_) (fun h11 => ?_)
    ·
      try simp only [decide_eq_true_eq, decide_eq_false_iff_not, Bool.or_eq_true, Bool.and_eq_true, Bool.or_eq_false_iff, Bool.and_eq_false_iff, Bool.not_eq_true', Bool.not_eq_false', Int.not_lt, Int.not_le, Decidable.not_not, V.u8eq, V.S_inj, V.S_lit, V.S_lit2, V.bl] at h11
      try simp only [V.mk0, V.mk1, V.mk2, V.mk3] at h11
      refine V.skip ?_
      refine V.tN ?_
      refine V.seq ?_
      refine V.block ?_
      refine V.seq ?_
      refine V.region ?_
      refine V.elem T_ok F_xs rfl rfl sz22 rfl rfl rfl rfl (by first | omega | (simp only [List.length_take, List.length_drop, List.length_append, List.length_cons, List.length_nil, List.length_replicate, List.length_set, V.length_data, V.S_size]; omega)) (by first | omega | (simp only [List.length_take, List.length_drop, List.length_append, List.length_cons, List.length_nil, List.length_replicate, List.length_set, V.length_data, V.S_size]; omega)) ?_
      rintro b23 o24 cs25 hx26 hb27 hR33 hA28
      obtain ⟨x29, hx29⟩ : ∃ z', xs[((i : Int)).toNat] = z' := ⟨_, rfl⟩
      rw [hx29] at hR33
      obtain ⟨a30, c31, rfl, F32⟩ := hR33
      try simp only [Int.toNat_natCast] at hx29 hx26
      refine V.loadA T_ok (o0 := o24) (off := 0) hA28 rfl rfl rfl rfl rfl ?_
      refine V.run T_ok 1 rfl ?_
      refine V.nil ?_
      refine V.tN ?_
      refine V.region ?_
      refine V.run T_ok 2 rfl ?_
      have hfl := flat_len (i := i) (by omega) hx29
      have hfm := flat_le (xs := xs) (i + 1)
      refine V.appendR (rF3) (V.From.flat V.flat_str (D' := V.None') (F32.from Try.underlying22)) elT22_22 rfl rfl rfl rfl rfl (by first | omega | (simp only [List.length_take, List.length_drop, List.length_append, List.length_cons, List.length_nil, List.length_replicate, List.length_set, V.length_data, V.S_size]; omega)) (by unfold maxLen; first | omega | (simp only [List.length_take, List.length_drop, List.length_append, List.length_cons, List.length_nil, List.length_replicate, List.length_set, V.length_data, V.S_size]; omega)) (by omega) (by omega) (fun _ h => h.elim) (fun _ h => h.elim) ?_
      rintro a34 c35 w37 G38 s39 F36
      clear rF3
      have z40 := Go.RowKit.Below.size G38
      first | replace F_xs := V.Sl.bl F_xs G38 (by first | exact (fun _ h => by have := h.2; omega) | (intro k h; have := hD_xs k h; omega)) | clear F_xs | skip
      first | replace F32 := V.Sl.bl F32 G38 (by first | exact (fun _ h => by have := h.2; omega) | (intro k h; have := hD_xs k h; omega)) | clear F32 | skip
      replace HG := HG.bl (Go.RowKit.Below.mono G38 (by omega))
      clear G38
      refine V.run T_ok 1 rfl ?_
      refine V.nil ?_
      refine V.bN ?_
      refine V.tN ?_
      refine V.region ?_
      refine V.addN rfl rfl rfl rfl rfl (by first | omega | (simp only [List.length_take, List.length_drop, List.length_append, List.length_cons, List.length_nil, List.length_replicate, List.length_set, V.length_data, V.S_size]; omega)) (by first | omega | (simp only [List.length_take, List.length_drop, List.length_append, List.length_cons, List.length_nil, List.length_replicate, List.length_set, V.length_data, V.S_size]; omega)) ?_
      refine V.run T_ok 1 rfl ?_
      refine V.nil ?_
      refine V.tN ?_
      have hr41 : ((xs.take i).flatten) ++ x29 = (xs.take (i + 1)).flatten := flat_app (by omega) hx29
      rw [hr41] at F36 ⊢
      clear hr41
      
      exact ⟨_, (by omega), HG, (by omega), F_xs, (i + 1), a34, c35, rfl, (by omega), (by first | exact F36 | exact F36.mono (fun _ h => h) (by omega) (by omega)), rfl, rfl, rfl, rfl⟩
    ·
      try simp only [decide_eq_true_eq, decide_eq_false_iff_not, Bool.or_eq_true, Bool.and_eq_true, Bool.or_eq_false_iff, Bool.and_eq_false_iff, Bool.not_eq_true', Bool.not_eq_false', Int.not_lt, Int.not_le, Decidable.not_not, V.u8eq, V.S_inj, V.S_lit, V.S_lit2, V.bl] at h11
      try simp only [V.mk0, V.mk1, V.mk2, V.mk3] at h11
      refine V.exit ?_
      refine V.tX ?_
      refine V.tX ?_
      refine V.bE ?_
      refine V.tN ?_
      refine V.seq ?_
      have hr42 : (xs.take i).flatten = xs.flatten := flat_all (by omega)
      rw [hr42] at rF3 ⊢
      clear hr42
      refine V.region ?_
      refine V.run T_ok 2 rfl ?_
      refine V.nil ?_
      refine V.tN ?_
      refine V.ret ?_
      refine V.done rfl ?_
      exact ⟨ra3, rc3, (by first | rfl | simp only [List.length_set]), (by first | exact rF3 | exact rF3.mono (fun _ h => h) (by omega) (by omega)), HG⟩



structure Dir (w : World) (k : Nat) (D : Nat → Prop) (l : List ByteArray) : Prop where
  ex : ∃ a c, Cells w k [.slice a l.length c] 58 ∧ Sl V.Cod.str w D a c l
  ok : 1 ≤ l.length ∧ l.length ≤ 1000000 ∧ ∀ b ∈ l, b.size ≤ 140737488355327
theorem Dir.gr {w w' : World} {k : Nat} {D : Nat → Prop} {l : List ByteArray} (h : Dir w k D l) (f : Gr w w') : Dir w' k D l := let ⟨a, c, h1, h2⟩ := h.ex; ⟨⟨a, c, h1.gr f, h2.gr f⟩, h.ok⟩
theorem Dir.mv1 {w w' : World} {k i : Nat} {D : Nat → Prop} {l : List ByteArray} (h : Dir w k D l) (f : Fr [i] w w') (hn : i ≠ k ∧ ¬ D i) : Dir w' k D l := let ⟨a, c, h1, h2⟩ := h.ex; ⟨⟨a, c, h1.mv1 f hn.1, h2.mv1 f hn.2⟩, h.ok⟩
theorem Dir.flb {w : World} {k : Nat} {D : Nat → Prop} {l : List ByteArray} (h : Dir w k D l) : Dir w k (fun j => D j ∧ j < w.heap.size) l := let ⟨a, c, h1, h2⟩ := h.ex; ⟨⟨a, c, h1, h2.fl V.flat_str (by decide)⟩, h.ok⟩
theorem Dir.lt {w : World} {k : Nat} {D : Nat → Prop} {l : List ByteArray} (h : Dir w k D l) : k < w.heap.size := let ⟨a, c, h1, h2⟩ := h.ex; h1.lt
theorem Dir.bl {w w' : World} {k b : Nat} {D : Nat → Prop} {l : List ByteArray} (h : Dir w k D l) (f : V.Bl b w w') (hn : k < b ∧ ∀ j, D j → j < b) : Dir w' k D l := let ⟨a, c, h1, h2⟩ := h.ex; ⟨⟨a, c, h1.bl f hn.1, h2.bl f hn.2⟩, h.ok⟩

structure RDir (w : World) (k : Nat) (D : Nat → Prop) (l : List (ByteArray × ByteArray)) : Prop where
  ex : ∃ a c, Cells w k [.slice a l.length c] 38 ∧ Sl (V.Cod.pair V.Cod.str V.Cod.str) w D a c l
  ok : l.length ≤ 1000000 ∧ ∀ b ∈ l, b.1.size ≤ 140737488355327 ∧ b.2.size ≤ 140737488355327
theorem RDir.gr {w w' : World} {k : Nat} {D : Nat → Prop} {l : List (ByteArray × ByteArray)} (h : RDir w k D l) (f : Gr w w') : RDir w' k D l := let ⟨a, c, h1, h2⟩ := h.ex; ⟨⟨a, c, h1.gr f, h2.gr f⟩, h.ok⟩
theorem RDir.mv1 {w w' : World} {k i : Nat} {D : Nat → Prop} {l : List (ByteArray × ByteArray)} (h : RDir w k D l) (f : Fr [i] w w') (hn : i ≠ k ∧ ¬ D i) : RDir w' k D l := let ⟨a, c, h1, h2⟩ := h.ex; ⟨⟨a, c, h1.mv1 f hn.1, h2.mv1 f hn.2⟩, h.ok⟩
theorem RDir.flb {w : World} {k : Nat} {D : Nat → Prop} {l : List (ByteArray × ByteArray)} (h : RDir w k D l) : RDir w k (fun j => D j ∧ j < w.heap.size) l := let ⟨a, c, h1, h2⟩ := h.ex; ⟨⟨a, c, h1, h2.fl V.flat_span (by decide)⟩, h.ok⟩
theorem RDir.lt {w : World} {k : Nat} {D : Nat → Prop} {l : List (ByteArray × ByteArray)} (h : RDir w k D l) : k < w.heap.size := let ⟨a, c, h1, h2⟩ := h.ex; h1.lt
theorem RDir.bl {w w' : World} {k b : Nat} {D : Nat → Prop} {l : List (ByteArray × ByteArray)} (h : RDir w k D l) (f : V.Bl b w w') (hn : k < b ∧ ∀ j, D j → j < b) : RDir w' k D l := let ⟨a, c, h1, h2⟩ := h.ex; ⟨⟨a, c, h1.bl f hn.1, h2.bl f hn.2⟩, h.ok⟩


def inR (bs : List ByteArray) (i : Int) : Bool := decide (0 ≤ i) && decide (i < (bs.length : Int) - 1)
def rgV (bs : List ByteArray) (i : Int) : ByteArray × ByteArray := if inR bs i = true then (bs.getD i.toNat (S []), bs.getD (i.toNat + 1) (S [])) else (S [], S [])
def fdV (bs : List ByteArray) (key : ByteArray) : Int := if isKey key = true then ixF bs key - 1 else 0
/-- the parts of the first n ranges -/
def ptV (bs : List ByteArray) (f t : ByteArray) (n : Nat) : List (Int × ByteArray × ByteArray) := (List.range n).filterMap fun (i : Nat) => if meetB f t (rgV bs i).1 (rgV bs i).2 = true then some ((i : Int), clipR f t (rgV bs i).1 (rgV bs i).2) else none
theorem ptV_succ {bs : List ByteArray} {f t : ByteArray} {n : Nat} : ptV bs f t (n + 1) = ptV bs f t n ++ (if meetB f t (rgV bs n).1 (rgV bs n).2 = true then [((n : Int), clipR f t (rgV bs n).1 (rgV bs n).2)] else []) := by
  unfold ptV
  rw [List.range_succ, List.filterMap_append]
  congr 1
  by_cases h : meetB f t (rgV bs n).1 (rgV bs n).2 = true <;> simp [h]
theorem ptV_len {bs : List ByteArray} {f t : ByteArray} {n : Nat} : (ptV bs f t n).length ≤ n := by
  unfold ptV; exact Nat.le_trans (List.length_filterMap_le _ _) (by simp)
theorem getD_atI {l : List ByteArray} {i : Int} {n : Nat} {x : ByteArray} (hn : i.toNat = n) (hi : i.toNat < l.length) (hx : l[i.toNat] = x) : l.getD n (S []) = x := by subst hn; rw [List.getD_eq_getElem?_getD, List.getElem?_eq_getElem hi, hx]; rfl
theorem getD_at {l : List ByteArray} {i : Nat} {x : ByteArray} (hi : i < l.length) (hx : l[i] = x) : l.getD i (S []) = x := by rw [List.getD_eq_getElem?_getD, List.getElem?_eq_getElem hi, hx]; rfl

set_option maxHeartbeats 4000000 in
set_option maxRecDepth 10000 in
theorem len_nil {w : World}    :
    Meets Try.prog 12 [.pointer none] w fun r w' => r = .int .i64 0 ∧ w = w' := by
  refine V.enter (n := 11) Try.func12 rfl rfl (by decide) rfl ?_
  refine V.seq ?_
  refine V.region ?_
  refine V.run T_ok 1 rfl ?_
  refine V.nil ?_
  refine V.tN ?_
  refine V.seq ?_
  refine V.seq ?_
  refine V.region ?_
  refine V.run T_ok 2 rfl ?_
  refine V.nil ?_
  refine V.tN ?_
  refine V.condY rfl rfl ?_
  refine V.seq ?_
  refine V.region ?_
  refine V.run T_ok 1 rfl ?_
  refine V.nil ?_
  refine V.tN ?_
  refine V.ret ?_
  refine V.tR ?_
  refine V.done rfl ?_
  exact ⟨(by first | rfl | simp only [List.length_set]), rfl⟩

set_option maxHeartbeats 4000000 in
set_option maxRecDepth 10000 in
theorem len_spec {w : World} {k : Nat} {D : Nat → Prop} {bs : List ByteArray} (FD : Dir w k D bs)   :
    Meets Try.prog 12 [.pointer (some ⟨k, 0, none⟩)] w fun r w' => r = .int .i64 ((bs.length : Int) - 1) ∧ w = w' := by
  obtain ⟨ao, co, Fk, Fo⟩ := FD.ex
  have hok := FD.ok
  have hkl := Fk.lt
  refine V.enter (n := 11) Try.func12 rfl rfl (by decide) rfl ?_
  refine V.seq ?_
  refine V.region ?_
  refine V.run T_ok 1 rfl ?_
  refine V.nil ?_
  refine V.tN ?_
  refine V.seq ?_
  refine V.seq ?_
  refine V.region ?_
  refine V.run T_ok 2 rfl ?_
  refine V.nil ?_
  refine V.tN ?_
  refine V.condN rfl rfl ?_
  refine V.skip ?_
  refine V.tN ?_
  refine V.seq ?_
  refine V.region ?_
  refine V.run T_ok 3 rfl ?_
  refine V.loadO T_ok Fk rfl rfl rfl rfl rfl ?_
  refine V.run T_ok 1 rfl ?_
  refine V.subN rfl rfl rfl rfl rfl (by first | omega | (simp only [List.length_take, List.length_drop, List.length_append, List.length_cons, List.length_nil, List.length_replicate, List.length_set, V.length_data, V.S_size]; omega)) (by first | omega | (simp only [List.length_take, List.length_drop, List.length_append, List.length_cons, List.length_nil, List.length_replicate, List.length_set, V.length_data, V.S_size]; omega)) ?_
  refine V.run T_ok 1 rfl ?_
  refine V.nil ?_
  refine V.tN ?_
  refine V.ret ?_
  refine V.done rfl ?_
  exact ⟨(by first | rfl | simp only [List.length_set]), rfl⟩

set_option maxHeartbeats 4000000 in
set_option maxRecDepth 10000 in
theorem range_spec {w : World} {k : Nat} {D : Nat → Prop} {bs : List ByteArray} (FD : Dir w k D bs) {i : Int}  :
    Meets Try.prog 13 [.pointer (some ⟨k, 0, none⟩), .int .i64 i] w fun r w' => r = .tuple #[.agg #[.string ((rgV bs i).1), .string ((rgV bs i).2)], .bool (inR bs i)] ∧ Gr w w' := by
  obtain ⟨ao, co, Fk, Fo⟩ := FD.ex
  have hok := FD.ok
  have hkl := Fk.lt
  have HG := V.Fr.refl [] w
  refine V.enter (n := 31) Try.func13 rfl rfl (by decide) rfl ?_
  refine V.seq ?_
  refine V.region ?_
  refine V.alloc zero24 rfl rfl rfl ?_
  rintro k1 w3 s5 s6 G4 Fk2
  have z7 := V.Fr.size G4
  try replace Fk := Fk.gr G4
  try replace Fo := Fo.gr G4
  try replace FD := FD.gr G4
  replace HG := HG.grow G4
  clear G4
  try simp only [V.cellsL, V.spliceL] at Fk2
  refine V.run T_ok 1 rfl ?_
  refine V.nil ?_
  refine V.tN ?_
  refine V.seq ?_
  refine V.seq ?_
  refine V.region ?_
  refine V.run T_ok 3 rfl ?_
  refine V.split (j := 2) (t := 8) rfl rfl (fun g1_2 => ?_) (fun g1_2 => ?_)
  ·
    try simp only [decide_eq_true_eq, decide_eq_false_iff_not, Bool.or_eq_true, Bool.and_eq_true, Bool.or_eq_false_iff, Bool.and_eq_false_iff, Bool.not_eq_true', Bool.not_eq_false', Int.not_lt, Int.not_le, Decidable.not_not, V.u8eq, V.S_inj, V.S_lit, V.S_lit2, V.bl] at g1_2
    try simp only [V.mk0, V.mk1, V.mk2, V.mk3] at g1_2
    refine V.run T_ok 5 rfl ?_
    refine V.nil ?_
    refine V.tN ?_
    refine V.condY rfl rfl ?_
    refine V.seq ?_
    refine V.region ?_
    refine V.mkStruct T_ok zero24 rfl rfl rfl rfl rfl ?_
    refine V.storeO Fk2 rfl rfl rfl rfl sz24 rfl rfl rfl rfl ?_
    rintro w8 G9 z11 Fs10
    clear Fk2
    have z12 := V.Fr.size G9
    first | replace Fk := Fk.mv1 G9 (by omega) | clear Fk | skip
    first | replace Fo := Fo.mv1 G9 (by first | exact (fun h => by have := h.1; have := h.2; omega) | exact (fun h => by omega) | exact (fun h => by have := h.1.1; have := h.1.2; omega) | exact (fun h => h.2 rfl) | exact (fun h => hnk h.1) | first | omega | exact fun h => h | exact ⟨by omega, fun h => h⟩ | (intro h; first | (have := hD _ h; omega)) | (refine ⟨by omega, ?_⟩; intro h; first | (have := hD _ h; omega))) | clear Fo | skip
    first | replace FD := FD.mv1 G9 (by first | exact ⟨by omega, by assumption⟩ | exact ⟨by omega, fun h => absurd h.1 (by assumption)⟩ | exact ⟨by omega, fun h => absurd h.1.1 (by assumption)⟩ | exact ⟨by omega, fun h => by first | (have h2 := h.1; have h3 := h.2; omega) | (have h2 := h; dsimp only at h2; omega)⟩ | first | omega | exact fun h => h | exact ⟨by omega, fun h => h⟩ | (intro h; first | (have := hD _ h; omega)) | (refine ⟨by omega, ?_⟩; intro h; first | (have := hD _ h; omega))) | clear FD | skip
    replace HG := HG.new1 G9 (by first | (refine Or.inr ?_; omega) | (refine Or.inl ?_; simp; done))
    clear G9
    have Fk2 := Fs10; clear Fs10
    simp only [V.spliceL, V.cellsL] at Fk2
    refine V.run T_ok 1 rfl ?_
    refine V.nil ?_
    refine V.tN ?_
    refine V.ret ?_
    refine V.tR ?_
    refine V.done2 rfl (V.resV_cell T_ok Fk2 rfl rfl) (V.resV_tmp rfl) ?_
    rw [show rgV bs i = (S [], S []) by unfold rgV inR; rw [if_neg (by simp; omega)], show inR bs i = false by unfold inR; simp; omega]
    exact ⟨(by first | rfl | simp only [List.length_set]), HG⟩
  ·
    try simp only [decide_eq_true_eq, decide_eq_false_iff_not, Bool.or_eq_true, Bool.and_eq_true, Bool.or_eq_false_iff, Bool.and_eq_false_iff, Bool.not_eq_true', Bool.not_eq_false', Int.not_lt, Int.not_le, Decidable.not_not, V.u8eq, V.S_inj, V.S_lit, V.S_lit2, V.bl] at g1_2
    try simp only [V.mk0, V.mk1, V.mk2, V.mk3] at g1_2
    refine V.run T_ok 2 rfl ?_
    refine V.yes rfl rfl rfl ?_
    refine V.call (len_spec FD) rfl rfl rfl ?_
    rintro _ w3_ ⟨rfl, rfl⟩
    refine V.run T_ok 2 rfl ?_
    refine V.nil ?_
    refine V.tN ?_
    refine V.condT rfl (fun h1 => ?_) (fun h1 => ?_)
    ·
      try simp only [decide_eq_true_eq, decide_eq_false_iff_not, Bool.or_eq_true, Bool.and_eq_true, Bool.or_eq_false_iff, Bool.and_eq_false_iff, Bool.not_eq_true', Bool.not_eq_false', Int.not_lt, Int.not_le, Decidable.not_not, V.u8eq, V.S_inj, V.S_lit, V.S_lit2, V.bl] at h1
      try simp only [V.mk0, V.mk1, V.mk2, V.mk3] at h1
      refine V.seq ?_
      refine V.region ?_
      refine V.mkStruct T_ok zero24 rfl rfl rfl rfl rfl ?_
      refine V.storeO Fk2 rfl rfl rfl rfl sz24 rfl rfl rfl rfl ?_
      rintro w14 G15 z17 Fs16
      clear Fk2
      have z18 := V.Fr.size G15
      first | replace Fk := Fk.mv1 G15 (by omega) | clear Fk | skip
      first | replace Fo := Fo.mv1 G15 (by first | exact (fun h => by have := h.1; have := h.2; omega) | exact (fun h => by omega) | exact (fun h => by have := h.1.1; have := h.1.2; omega) | exact (fun h => h.2 rfl) | exact (fun h => hnk h.1) | first | omega | exact fun h => h | exact ⟨by omega, fun h => h⟩ | (intro h; first | (have := hD _ h; omega)) | (refine ⟨by omega, ?_⟩; intro h; first | (have := hD _ h; omega))) | clear Fo | skip
      first | replace FD := FD.mv1 G15 (by first | exact ⟨by omega, by assumption⟩ | exact ⟨by omega, fun h => absurd h.1 (by assumption)⟩ | exact ⟨by omega, fun h => absurd h.1.1 (by assumption)⟩ | exact ⟨by omega, fun h => by first | (have h2 := h.1; have h3 := h.2; omega) | (have h2 := h; dsimp only at h2; omega)⟩ | first | omega | exact fun h => h | exact ⟨by omega, fun h => h⟩ | (intro h; first | (have := hD _ h; omega)) | (refine ⟨by omega, ?_⟩; intro h; first | (have := hD _ h; omega))) | clear FD | skip
      replace HG := HG.new1 G15 (by first | (refine Or.inr ?_; omega) | (refine Or.inl ?_; simp; done))
      clear G15
      have Fk2 := Fs16; clear Fs16
      simp only [V.spliceL, V.cellsL] at Fk2
      refine V.run T_ok 1 rfl ?_
      refine V.nil ?_
      refine V.tN ?_
      refine V.ret ?_
      refine V.tR ?_
      refine V.done2 rfl (V.resV_cell T_ok Fk2 rfl rfl) (V.resV_tmp rfl) ?_
      rw [show rgV bs i = (S [], S []) by unfold rgV inR; rw [if_neg (by simp; omega)], show inR bs i = false by unfold inR; simp; omega]
      exact ⟨(by first | rfl | simp only [List.length_set]), HG⟩
    ·
      try simp only [decide_eq_true_eq, decide_eq_false_iff_not, Bool.or_eq_true, Bool.and_eq_true, Bool.or_eq_false_iff, Bool.and_eq_false_iff, Bool.not_eq_true', Bool.not_eq_false', Int.not_lt, Int.not_le, Decidable.not_not, V.u8eq, V.S_inj, V.S_lit, V.S_lit2, V.bl] at h1
      try simp only [V.mk0, V.mk1, V.mk2, V.mk3] at h1
      refine V.skip ?_
      refine V.tN ?_
      refine V.seq ?_
      refine V.drawT 16 mixed (by kernel_rfl) ?_
      rintro w19 G20 s21
      have z22 := V.Fr.size G20
      try replace Fk := Fk.gr G20
      try replace Fo := Fo.gr G20
      try replace FD := FD.gr G20
      try replace Fk2 := Fk2.gr G20
      replace HG := HG.grow G20
      clear G20
      refine V.qrun T_ok 3 rfl ?_
      refine V.qloadO T_ok Fk rfl rfl rfl rfl rfl ?_
      refine V.qrun T_ok 1 rfl ?_
      refine V.qelem T_ok Fo rfl rfl sz9 rfl rfl rfl rfl (by first | omega | (simp only [List.length_take, List.length_drop, List.length_append, List.length_cons, List.length_nil, List.length_replicate, List.length_set, V.length_data, V.S_size]; omega)) (by first | omega | (simp only [List.length_take, List.length_drop, List.length_append, List.length_cons, List.length_nil, List.length_replicate, List.length_set, V.length_data, V.S_size]; omega)) ?_
      rintro b23 o24 cs25 hx26 hb27 hR30 hA28
      obtain ⟨x29, hx29⟩ : ∃ z', bs[(i).toNat] = z' := ⟨_, rfl⟩
      rw [hx29] at hR30
      obtain rfl := hR30
      try simp only [Int.toNat_natCast] at hx29 hx26
      refine V.qloadA T_ok (o0 := o24) (off := 0) hA28 rfl rfl rfl rfl rfl ?_
      refine V.qrun T_ok 3 rfl ?_
      refine V.qloadO T_ok Fk rfl rfl rfl rfl rfl ?_
      refine V.qrun T_ok 1 rfl ?_
      refine V.qaddN rfl rfl rfl rfl rfl (by first | omega | (simp only [List.length_take, List.length_drop, List.length_append, List.length_cons, List.length_nil, List.length_replicate, List.length_set, V.length_data, V.S_size]; omega)) (by first | omega | (simp only [List.length_take, List.length_drop, List.length_append, List.length_cons, List.length_nil, List.length_replicate, List.length_set, V.length_data, V.S_size]; omega)) ?_
      refine V.qelem T_ok Fo rfl rfl sz9 rfl rfl rfl rfl (by first | omega | (simp only [List.length_take, List.length_drop, List.length_append, List.length_cons, List.length_nil, List.length_replicate, List.length_set, V.length_data, V.S_size]; omega)) (by first | omega | (simp only [List.length_take, List.length_drop, List.length_append, List.length_cons, List.length_nil, List.length_replicate, List.length_set, V.length_data, V.S_size]; omega)) ?_
      rintro b31 o32 cs33 hx34 hb35 hR38 hA36
      obtain ⟨x37, hx37⟩ : ∃ z', bs[(i + 1).toNat] = z' := ⟨_, rfl⟩
      rw [hx37] at hR38
      obtain rfl := hR38
      try simp only [Int.toNat_natCast] at hx37 hx34
      refine V.qloadA T_ok (o0 := o32) (off := 0) hA36 rfl rfl rfl rfl rfl ?_
      refine V.qmkStruct T_ok zero24 rfl rfl rfl rfl rfl ?_
      refine V.qnil ?_
      refine V.storeO Fk2 rfl rfl rfl rfl sz24 rfl rfl rfl rfl ?_
      rintro w39 G40 z42 Fs41
      clear Fk2
      have z43 := V.Fr.size G40
      first | replace Fk := Fk.mv1 G40 (by omega) | clear Fk | skip
      first | replace Fo := Fo.mv1 G40 (by first | exact (fun h => by have := h.1; have := h.2; omega) | exact (fun h => by omega) | exact (fun h => by have := h.1.1; have := h.1.2; omega) | exact (fun h => h.2 rfl) | exact (fun h => hnk h.1) | first | omega | exact fun h => h | exact ⟨by omega, fun h => h⟩ | (intro h; first | (have := hD _ h; omega)) | (refine ⟨by omega, ?_⟩; intro h; first | (have := hD _ h; omega))) | clear Fo | skip
      first | replace FD := FD.mv1 G40 (by first | exact ⟨by omega, by assumption⟩ | exact ⟨by omega, fun h => absurd h.1 (by assumption)⟩ | exact ⟨by omega, fun h => absurd h.1.1 (by assumption)⟩ | exact ⟨by omega, fun h => by first | (have h2 := h.1; have h3 := h.2; omega) | (have h2 := h; dsimp only at h2; omega)⟩ | first | omega | exact fun h => h | exact ⟨by omega, fun h => h⟩ | (intro h; first | (have := hD _ h; omega)) | (refine ⟨by omega, ?_⟩; intro h; first | (have := hD _ h; omega))) | clear FD | skip
      replace HG := HG.new1 G40 (by first | (refine Or.inr ?_; omega) | (refine Or.inl ?_; simp; done))
      clear G40
      have Fk2 := Fs41; clear Fs41
      simp only [V.spliceL, V.cellsL] at Fk2
      refine V.run T_ok 1 rfl ?_
      refine V.nil ?_
      refine V.tN ?_
      refine V.ret ?_
      refine V.done2 rfl (V.resV_cell T_ok Fk2 rfl rfl) (V.resV_tmp rfl) ?_
      rw [show inR bs i = true by unfold inR; simp; omega, show rgV bs i = (x29, x37) by unfold rgV inR; rw [if_pos (by simp; omega), getD_atI rfl (by omega) hx29, getD_atI (i := i + 1) (by omega) (by omega) hx37]]
      exact ⟨(by first | rfl | simp only [List.length_set]), HG⟩

set_option maxHeartbeats 4000000 in
set_option maxRecDepth 10000 in
theorem range_nil {w : World}  {i : Int}  :
    Meets Try.prog 13 [.pointer none, .int .i64 i] w fun r w' => r = .tuple #[.agg #[.string (S []), .string (S [])], .bool false] ∧ Gr w w' := by
  have HG := V.Fr.refl [] w
  refine V.enter (n := 31) Try.func13 rfl rfl (by decide) rfl ?_
  refine V.seq ?_
  refine V.region ?_
  refine V.alloc zero24 rfl rfl rfl ?_
  rintro k1 w3 s5 s6 G4 Fk2
  have z7 := V.Fr.size G4
  replace HG := HG.grow G4
  clear G4
  try simp only [V.cellsL, V.spliceL] at Fk2
  refine V.run T_ok 1 rfl ?_
  refine V.nil ?_
  refine V.tN ?_
  refine V.seq ?_
  refine V.seq ?_
  refine V.region ?_
  refine V.run T_ok 3 rfl ?_
  refine V.split (j := 2) (t := 8) rfl rfl (fun g1_2 => ?_) (fun g1_2 => ?_)
  ·
    try simp only [decide_eq_true_eq, decide_eq_false_iff_not, Bool.or_eq_true, Bool.and_eq_true, Bool.or_eq_false_iff, Bool.and_eq_false_iff, Bool.not_eq_true', Bool.not_eq_false', Int.not_lt, Int.not_le, Decidable.not_not, V.u8eq, V.S_inj, V.S_lit, V.S_lit2, V.bl] at g1_2
    try simp only [V.mk0, V.mk1, V.mk2, V.mk3] at g1_2
    refine V.run T_ok 5 rfl ?_
    refine V.nil ?_
    refine V.tN ?_
    refine V.condY rfl (by (first | rfl | exact decide_eq_true (by omega))) ?_
    refine V.seq ?_
    refine V.region ?_
    refine V.mkStruct T_ok zero24 rfl rfl rfl rfl rfl ?_
    refine V.storeO Fk2 rfl rfl rfl rfl sz24 rfl rfl rfl rfl ?_
    rintro w8 G9 z11 Fs10
    clear Fk2
    have z12 := V.Fr.size G9
    replace HG := HG.new1 G9 (by first | (refine Or.inr ?_; omega) | (refine Or.inl ?_; simp; done))
    clear G9
    have Fk2 := Fs10; clear Fs10
    simp only [V.spliceL, V.cellsL] at Fk2
    refine V.run T_ok 1 rfl ?_
    refine V.nil ?_
    refine V.tN ?_
    refine V.ret ?_
    refine V.tR ?_
    refine V.done2 rfl (V.resV_cell T_ok Fk2 rfl rfl) (V.resV_tmp rfl) ?_
    exact ⟨(by first | rfl | simp only [List.length_set]), HG⟩
  ·
    try simp only [decide_eq_true_eq, decide_eq_false_iff_not, Bool.or_eq_true, Bool.and_eq_true, Bool.or_eq_false_iff, Bool.and_eq_false_iff, Bool.not_eq_true', Bool.not_eq_false', Int.not_lt, Int.not_le, Decidable.not_not, V.u8eq, V.S_inj, V.S_lit, V.S_lit2, V.bl] at g1_2
    try simp only [V.mk0, V.mk1, V.mk2, V.mk3] at g1_2
    refine V.run T_ok 2 rfl ?_
    refine V.yes rfl rfl rfl ?_
    refine V.call (len_nil) rfl rfl rfl ?_
    rintro _ w3_ ⟨rfl, rfl⟩
    refine V.run T_ok 2 rfl ?_
    refine V.nil ?_
    refine V.tN ?_
    refine V.condY rfl (by (first | rfl | exact decide_eq_true (by omega))) ?_
    refine V.seq ?_
    refine V.region ?_
    refine V.mkStruct T_ok zero24 rfl rfl rfl rfl rfl ?_
    refine V.storeO Fk2 rfl rfl rfl rfl sz24 rfl rfl rfl rfl ?_
    rintro w14 G15 z17 Fs16
    clear Fk2
    have z18 := V.Fr.size G15
    replace HG := HG.new1 G15 (by first | (refine Or.inr ?_; omega) | (refine Or.inl ?_; simp; done))
    clear G15
    have Fk2 := Fs16; clear Fs16
    simp only [V.spliceL, V.cellsL] at Fk2
    refine V.run T_ok 1 rfl ?_
    refine V.nil ?_
    refine V.tN ?_
    refine V.ret ?_
    refine V.tR ?_
    refine V.done2 rfl (V.resV_cell T_ok Fk2 rfl rfl) (V.resV_tmp rfl) ?_
    exact ⟨(by first | rfl | simp only [List.length_set]), HG⟩


theorem rgV_le {bs : List ByteArray} (h : ∀ b ∈ bs, b.size ≤ 140737488355327) (i : Int) : (rgV bs i).1.size ≤ 140737488355327 ∧ (rgV bs i).2.size ≤ 140737488355327 := by
  have hg : ∀ n, (bs.getD n (S [])).size ≤ 140737488355327 := fun n => by
    rw [List.getD_eq_getElem?_getD]
    cases hn : bs[n]? with
    | none => exact Nat.zero_le _
    | some b => exact h b (List.mem_of_getElem? hn)
  unfold rgV
  split
  · exact ⟨hg _, hg _⟩
  · exact ⟨Nat.zero_le _, Nat.zero_le _⟩
theorem ixF_le {l : List ByteArray} {key : ByteArray} : -1 ≤ ixF l key ∧ ixF l key ≤ l.length := by
  unfold ixF
  have := List.findIdx_le_length (p := fun b => decide (key < b)) (xs := l)
  split <;> omega

set_option maxHeartbeats 4000000 in
set_option maxRecDepth 10000 in
theorem find_spec {w : World} {k : Nat} {D : Nat → Prop} {bs : List ByteArray} (FD : Dir w k D bs) {key : ByteArray} (hk : key.size ≤ 9223372036854775807) :
    Meets Try.prog 14 [.pointer (some ⟨k, 0, none⟩), .string key] w fun r w' => r = .tuple #[.int .i64 (fdV bs key), .bool (isKey key)] ∧ Gr w w' := by
  obtain ⟨ao, co, Fk, Fo⟩ := FD.ex
  have hok := FD.ok
  have hkl := Fk.lt
  have hix := ixF_le (l := bs) (key := key)
  have HG := V.Fr.refl [] w
  refine V.enter (n := 20) Try.func14 rfl rfl (by decide) rfl ?_
  refine V.seq ?_
  refine V.region ?_
  refine V.box rfl rfl rfl rfl ?_
  rintro k1 w3 s5 s6 G4 Fk2
  have z7 := V.Fr.size G4
  try replace Fk := Fk.gr G4
  try replace Fo := Fo.gr G4
  try replace FD := FD.gr G4
  replace HG := HG.grow G4
  clear G4
  try simp only [V.cellsL, V.spliceL] at Fk2
  refine V.run T_ok 2 rfl ?_
  refine V.nil ?_
  refine V.tN ?_
  refine V.seq ?_
  refine V.seq ?_
  refine V.region ?_
  refine V.run T_ok 3 rfl ?_
  refine V.yes rfl rfl rfl ?_
  refine V.loadO T_ok Fk2 rfl rfl rfl rfl rfl ?_
  refine V.yes rfl rfl rfl ?_
  refine V.call (key_spec (s := key) (by first | omega | decide | (simp only [V.S_size, List.length_cons, List.length_nil]; omega))) rfl rfl rfl ?_
  rintro _ w3_ ⟨rfl, rfl⟩
  refine V.run T_ok 2 rfl ?_
  refine V.nil ?_
  refine V.tN ?_
  refine V.condT rfl (fun h1 => ?_) (fun h1 => ?_)
  ·
    try simp only [decide_eq_true_eq, decide_eq_false_iff_not, Bool.or_eq_true, Bool.and_eq_true, Bool.or_eq_false_iff, Bool.and_eq_false_iff, Bool.not_eq_true', Bool.not_eq_false', Int.not_lt, Int.not_le, Decidable.not_not, V.u8eq, V.S_inj, V.S_lit, V.S_lit2, V.bl] at h1
    try simp only [V.mk0, V.mk1, V.mk2, V.mk3] at h1
    refine V.seq ?_
    refine V.region ?_
    refine V.run T_ok 2 rfl ?_
    refine V.nil ?_
    refine V.tN ?_
    refine V.ret ?_
    refine V.tR ?_
    refine V.done rfl ?_
    rw [show isKey key = false by assumption, show fdV bs key = 0 by unfold fdV; rw [if_neg (by simp [*])]]
    exact ⟨(by first | rfl | simp only [List.length_set]), HG⟩
  ·
    try simp only [decide_eq_true_eq, decide_eq_false_iff_not, Bool.or_eq_true, Bool.and_eq_true, Bool.or_eq_false_iff, Bool.and_eq_false_iff, Bool.not_eq_true', Bool.not_eq_false', Int.not_lt, Int.not_le, Decidable.not_not, V.u8eq, V.S_inj, V.S_lit, V.S_lit2, V.bl] at h1
    try simp only [V.mk0, V.mk1, V.mk2, V.mk3] at h1
    refine V.skip ?_
    refine V.tN ?_
    refine V.seq ?_
    refine V.region ?_
    refine V.run T_ok 3 rfl ?_
    refine V.loadO T_ok Fk rfl rfl rfl rfl rfl ?_
    refine V.run T_ok 1 rfl ?_
    refine V.call (index_spec Fo (Fk := Fk2)) rfl rfl rfl ?_
    rintro _ w3_ ⟨rfl, rfl⟩
    refine V.subN rfl rfl rfl rfl rfl (by first | omega | (simp only [List.length_take, List.length_drop, List.length_append, List.length_cons, List.length_nil, List.length_replicate, List.length_set, V.length_data, V.S_size]; omega)) (by first | omega | (simp only [List.length_take, List.length_drop, List.length_append, List.length_cons, List.length_nil, List.length_replicate, List.length_set, V.length_data, V.S_size]; omega)) ?_
    refine V.run T_ok 2 rfl ?_
    refine V.nil ?_
    refine V.tN ?_
    refine V.ret ?_
    refine V.done rfl ?_
    rw [show isKey key = true by assumption, show fdV bs key = ixF bs key - 1 by unfold fdV; rw [if_pos (by assumption)]]
    exact ⟨(by first | rfl | simp only [List.length_set]), HG⟩

set_option maxHeartbeats 4000000 in
set_option maxRecDepth 10000 in
theorem find_nil {w : World}  {key : ByteArray} (hk : key.size ≤ 9223372036854775807) :
    Meets Try.prog 14 [.pointer none, .string key] w fun r w' => r = .tuple #[.int .i64 0, .bool false] ∧ Gr w w' := by
  have HG := V.Fr.refl [] w
  refine V.enter (n := 20) Try.func14 rfl rfl (by decide) rfl ?_
  refine V.seq ?_
  refine V.region ?_
  refine V.box rfl rfl rfl rfl ?_
  rintro k1 w3 s5 s6 G4 Fk2
  have z7 := V.Fr.size G4
  replace HG := HG.grow G4
  clear G4
  try simp only [V.cellsL, V.spliceL] at Fk2
  refine V.run T_ok 2 rfl ?_
  refine V.nil ?_
  refine V.tN ?_
  refine V.seq ?_
  refine V.seq ?_
  refine V.region ?_
  refine V.run T_ok 7 rfl ?_
  refine V.nil ?_
  refine V.tN ?_
  refine V.condY rfl rfl ?_
  refine V.seq ?_
  refine V.region ?_
  refine V.run T_ok 2 rfl ?_
  refine V.nil ?_
  refine V.tN ?_
  refine V.ret ?_
  refine V.tR ?_
  refine V.done rfl ?_
  exact ⟨(by first | rfl | simp only [List.length_set]), HG⟩

set_option maxHeartbeats 4000000 in
set_option maxRecDepth 10000 in
theorem parts_nil {w : World}  {f : ByteArray} {t : ByteArray} (hf : f.size ≤ 9223372036854775807) (ht : t.size ≤ 9223372036854775807) :
    Meets Try.prog 16 [.pointer none, .agg #[.string f, .string t]] w fun r w' => r = .slice none 0 0 ∧ Gr w w' := by
  have HG := V.Fr.refl [] w
  refine V.enter (n := 37) Try.func16 rfl rfl (by decide) rfl ?_
  refine V.seq ?_
  refine V.region ?_
  refine V.box rfl rfl rfl rfl ?_
  rintro k1 w3 s5 s6 G4 Fk2
  have z7 := V.Fr.size G4
  replace HG := HG.grow G4
  clear G4
  try simp only [V.cellsL, V.spliceL] at Fk2
  refine V.run T_ok 1 rfl ?_
  refine V.nil ?_
  refine V.tN ?_
  refine V.seq ?_
  refine V.region ?_
  refine V.run T_ok 1 rfl ?_
  refine V.nil ?_
  refine V.tN ?_
  refine V.seq ?_
  refine V.seq ?_
  refine V.region ?_
  refine V.run T_ok 1 rfl ?_
  refine V.call (len_nil) rfl rfl rfl ?_
  rintro _ w3_ ⟨rfl, rfl⟩
  refine V.run T_ok 1 rfl ?_
  refine V.nil ?_
  refine V.tN ?_
  refine V.block ?_
  refine V.loopM (fun m e v10 => Fr [] w v10 ∧ w3.heap.size ≤ v10.heap.size ∧ Cells v10 k1 [.string f, .string t] 24 ∧ m = 0 ∧ e 0 = .pointer none ∧ e 3 = .pointer (some ⟨k1, 0, none⟩) ∧ e 5 = .slice none 0 0 ∧ e 12 = .int .i64 0 ∧ e 13 = .int .i64 0) ?_ ?_
  ·
    exact ⟨_, HG, (by omega), Fk2, rfl, rfl, rfl, rfl, rfl, rfl⟩
  clear HG Fk2
  rintro _ e v10 ⟨HG, z11, Fk2, rfl, he0_0, he0_3, he0_5, he0_12, he0_13⟩
  refine V.knownC (t := 0) he0_0 ?_
  refine V.knownC (t := 3) he0_3 ?_
  refine V.knownC (t := 5) he0_5 ?_
  refine V.knownC (t := 12) he0_12 ?_
  refine V.knownC (t := 13) he0_13 ?_
  refine V.seq ?_
  refine V.region ?_
  refine V.run T_ok 1 rfl ?_
  refine V.nil ?_
  refine V.tN ?_
  refine V.seq ?_
  refine V.condN rfl rfl ?_
  refine V.exit ?_
  refine V.tX ?_
  refine V.tX ?_
  refine V.bE ?_
  refine V.tN ?_
  refine V.seq ?_
  refine V.region ?_
  refine V.run T_ok 2 rfl ?_
  refine V.nil ?_
  refine V.tN ?_
  refine V.ret ?_
  refine V.done rfl ?_
  exact ⟨(by first | rfl | simp only [List.length_set]), HG⟩

set_option maxHeartbeats 4000000 in
set_option maxRecDepth 10000 in
theorem parts_spec {w : World} {k : Nat} {D : Nat → Prop} {bs : List ByteArray} (FD : Dir w k D bs) {f : ByteArray} {t : ByteArray} (hf : f.size ≤ 9223372036854775807) (ht : t.size ≤ 9223372036854775807) :
    Meets Try.prog 16 [.pointer (some ⟨k, 0, none⟩), .agg #[.string f, .string t]] w fun r w' => ∃ (ra4 : Option Addr) (rc4 : Nat), r = .slice ra4 (ptV bs f t (bs.length - 1)).length rc4 ∧ V.Row (V.Cod.pair (V.Cod.int .i64) (V.Cod.pair V.Cod.str V.Cod.str)) 48 w' V.None' w.heap.size w'.heap.size ra4 rc4 (ptV bs f t (bs.length - 1)) ∧ Gr w w' := by
  replace FD := FD.flb
  obtain ⟨ao, co, Fk, Fo⟩ := FD.ex
  have hok := FD.ok
  have hkl := Fk.lt
  have HG := V.Fr.refl [] w
  refine V.enter (n := 37) Try.func16 rfl rfl (by decide) rfl ?_
  refine V.seq ?_
  refine V.region ?_
  refine V.box rfl rfl rfl rfl ?_
  rintro k1 w3 s5 s6 G4 Fk2
  have z7 := V.Fr.size G4
  try replace Fk := Fk.gr G4
  try replace Fo := Fo.gr G4
  try replace FD := FD.gr G4
  replace HG := HG.grow G4
  clear G4
  try simp only [V.cellsL, V.spliceL] at Fk2
  refine V.run T_ok 1 rfl ?_
  refine V.nil ?_
  refine V.tN ?_
  refine V.seq ?_
  refine V.region ?_
  refine V.run T_ok 1 rfl ?_
  refine V.nil ?_
  refine V.tN ?_
  refine V.seq ?_
  refine V.seq ?_
  refine V.region ?_
  refine V.run T_ok 1 rfl ?_
  refine V.call (len_spec FD) rfl rfl rfl ?_
  rintro _ w3_ ⟨rfl, rfl⟩
  refine V.run T_ok 1 rfl ?_
  refine V.nil ?_
  refine V.tN ?_
  refine V.block ?_
  refine V.loopM (fun m e v10 => Fr [] w v10 ∧ w3.heap.size ≤ v10.heap.size ∧ Cells v10 k [.slice ao bs.length co] 58 ∧ Sl V.Cod.str v10 (fun j => D j ∧ j < w.heap.size) ao co bs ∧ Dir v10 k (fun j => D j ∧ j < w.heap.size) bs ∧ Cells v10 k1 [.string f, .string t] 24 ∧ ∃ (i : Nat) (ra5 : Option Addr) (rc5 : Nat), m = bs.length - i ∧ i ≤ bs.length - 1 ∧ V.Row (V.Cod.pair (V.Cod.int .i64) (V.Cod.pair V.Cod.str V.Cod.str)) 48 v10 V.None' w3.heap.size v10.heap.size ra5 rc5 (ptV bs f t i) ∧ e 0 = .pointer (some ⟨k, 0, none⟩) ∧ e 3 = .pointer (some ⟨k1, 0, none⟩) ∧ e 5 = .slice ra5 (ptV bs f t i).length rc5 ∧ e 12 = .int .i64 ((bs.length : Int) - 1) ∧ e 13 = .int .i64 (i : Int)) ?_ ?_
  ·
    exact ⟨_, HG, (by omega), Fk, Fo, FD, Fk2, (0), none, 0, rfl, (by omega), V.Row.nil, rfl, rfl, rfl, rfl, rfl⟩
  clear HG Fk Fo FD Fk2
  rintro _ e v10 ⟨HG, z11, Fk, Fo, FD, Fk2, i, ra5, rc5, rfl, hi, rF5, he0_0, he0_3, he0_5, he0_12, he0_13⟩
  have hpl := ptV_len (bs := bs) (f := f) (t := t) (n := i)
  refine V.knownC (t := 0) he0_0 ?_
  refine V.knownC (t := 3) he0_3 ?_
  refine V.knownC (t := 5) he0_5 ?_
  refine V.knownC (t := 12) he0_12 ?_
  refine V.knownC (t := 13) he0_13 ?_
  refine V.seq ?_
  refine V.region ?_
  refine V.run T_ok 1 rfl ?_
  refine V.nil ?_
  refine V.tN ?_
  refine V.seq ?_
  refine V.condT rfl (fun h3 => ?_) (fun h3 => ?_)
  ·
    try simp only [decide_eq_true_eq, decide_eq_false_iff_not, Bool.or_eq_true, Bool.and_eq_true, Bool.or_eq_false_iff, Bool.and_eq_false_iff, Bool.not_eq_true', Bool.not_eq_false', Int.not_lt, Int.not_le, Decidable.not_not, V.u8eq, V.S_inj, V.S_lit, V.S_lit2, V.bl] at h3
    try simp only [V.mk0, V.mk1, V.mk2, V.mk3] at h3
    refine V.skip ?_
    refine V.tN ?_
    refine V.seq ?_
    refine V.block ?_
    refine V.seq ?_
    refine V.region ?_
    refine V.run T_ok 2 rfl ?_
    refine V.nil ?_
    refine V.tN ?_
    refine V.seq ?_
    refine V.region ?_
    refine V.run T_ok 2 rfl ?_
    refine V.call (range_spec (i := (i : Int)) FD) rfl rfl rfl ?_
    rintro _ w12 ⟨rfl, G13⟩
    have z14 := V.Fr.size G13
    try replace Fk := Fk.gr G13
    try replace Fo := Fo.gr G13
    try replace FD := FD.gr G13
    try replace Fk2 := Fk2.gr G13
    try replace rF5 := rF5.gr G13
    replace HG := HG.grow G13
    clear G13
    refine V.run T_ok 3 rfl ?_
    refine V.alloc zero24 rfl rfl rfl ?_
    rintro k15 w17 s19 s20 G18 Fk16
    have z21 := V.Fr.size G18
    try replace Fk := Fk.gr G18
    try replace Fo := Fo.gr G18
    try replace FD := FD.gr G18
    try replace Fk2 := Fk2.gr G18
    try replace rF5 := rF5.gr G18
    replace HG := HG.grow G18
    clear G18
    try simp only [V.cellsL, V.spliceL] at Fk16
    refine V.storeO Fk16 rfl rfl rfl rfl sz24 rfl rfl rfl rfl ?_
    rintro w22 G23 z25 Fs24
    clear Fk16
    have z26 := V.Fr.size G23
    first | replace Fk := Fk.mv1 G23 (by omega) | clear Fk | skip
    first | replace Fo := Fo.mv1 G23 (by first | exact (fun h => by have := h.1; have := h.2; omega) | exact (fun h => by omega) | exact (fun h => by have := h.1.1; have := h.1.2; omega) | exact (fun h => h.2 rfl) | exact (fun h => hnk h.1) | first | omega | exact fun h => h | exact ⟨by omega, fun h => h⟩ | (intro h; first | (have := hD _ h; omega)) | (refine ⟨by omega, ?_⟩; intro h; first | (have := hD _ h; omega))) | clear Fo | skip
    first | replace FD := FD.mv1 G23 (by first | exact ⟨by omega, by assumption⟩ | exact ⟨by omega, fun h => absurd h.1 (by assumption)⟩ | exact ⟨by omega, fun h => absurd h.1.1 (by assumption)⟩ | exact ⟨by omega, fun h => by first | (have h2 := h.1; have h3 := h.2; omega) | (have h2 := h; dsimp only at h2; omega)⟩ | first | omega | exact fun h => h | exact ⟨by omega, fun h => h⟩ | (intro h; first | (have := hD _ h; omega)) | (refine ⟨by omega, ?_⟩; intro h; first | (have := hD _ h; omega))) | clear FD | skip
    first | replace Fk2 := Fk2.mv1 G23 (by omega) | clear Fk2 | skip
    first | replace rF5 := rF5.mv1 G23 (by first | exact ⟨fun h => h, fun h => by have := h.1; have := h.2; omega⟩ | omega) | clear rF5 | skip
    replace HG := HG.new1 G23 (by first | (refine Or.inr ?_; omega) | (refine Or.inl ?_; simp; done))
    clear G23
    have Fk16 := Fs24; clear Fs24
    simp only [V.spliceL, V.cellsL] at Fk16
    refine V.run T_ok 1 rfl ?_
    refine V.nil ?_
    refine V.tN ?_
    refine V.seq ?_
    refine V.region ?_
    have hrgi := rgV_le hok.2.2 (i : Int)
    refine V.loadO T_ok Fk2 rfl rfl rfl rfl rfl ?_
    refine V.loadO T_ok Fk16 rfl rfl rfl rfl rfl ?_
    refine V.call (clip_spec (f := f) (t := t) (f2 := ((rgV bs (i : Int)).1)) (t2 := ((rgV bs (i : Int)).2)) (by first | omega | decide | (simp only [V.S_size, List.length_cons, List.length_nil]; omega)) (by first | omega | decide | (simp only [V.S_size, List.length_cons, List.length_nil]; omega)) (by first | omega | decide | (simp only [V.S_size, List.length_cons, List.length_nil]; omega)) (by first | omega | decide | (simp only [V.S_size, List.length_cons, List.length_nil]; omega))) rfl rfl rfl ?_
    rintro _ w27 ⟨rfl, G28⟩
    have z29 := V.Fr.size G28
    try replace Fk := Fk.gr G28
    try replace Fo := Fo.gr G28
    try replace FD := FD.gr G28
    try replace Fk2 := Fk2.gr G28
    try replace rF5 := rF5.gr G28
    try replace Fk16 := Fk16.gr G28
    replace HG := HG.grow G28
    clear G28
    refine V.run T_ok 3 rfl ?_
    refine V.alloc zero24 rfl rfl rfl ?_
    rintro k30 w32 s34 s35 G33 Fk31
    have z36 := V.Fr.size G33
    try replace Fk := Fk.gr G33
    try replace Fo := Fo.gr G33
    try replace FD := FD.gr G33
    try replace Fk2 := Fk2.gr G33
    try replace rF5 := rF5.gr G33
    try replace Fk16 := Fk16.gr G33
    replace HG := HG.grow G33
    clear G33
    try simp only [V.cellsL, V.spliceL] at Fk31
    refine V.storeO Fk31 rfl rfl rfl rfl sz24 rfl rfl rfl rfl ?_
    rintro w37 G38 z40 Fs39
    clear Fk31
    have z41 := V.Fr.size G38
    first | replace Fk := Fk.mv1 G38 (by omega) | clear Fk | skip
    first | replace Fo := Fo.mv1 G38 (by first | exact (fun h => by have := h.1; have := h.2; omega) | exact (fun h => by omega) | exact (fun h => by have := h.1.1; have := h.1.2; omega) | exact (fun h => h.2 rfl) | exact (fun h => hnk h.1) | first | omega | exact fun h => h | exact ⟨by omega, fun h => h⟩ | (intro h; first | (have := hD _ h; omega)) | (refine ⟨by omega, ?_⟩; intro h; first | (have := hD _ h; omega))) | clear Fo | skip
    first | replace FD := FD.mv1 G38 (by first | exact ⟨by omega, by assumption⟩ | exact ⟨by omega, fun h => absurd h.1 (by assumption)⟩ | exact ⟨by omega, fun h => absurd h.1.1 (by assumption)⟩ | exact ⟨by omega, fun h => by first | (have h2 := h.1; have h3 := h.2; omega) | (have h2 := h; dsimp only at h2; omega)⟩ | first | omega | exact fun h => h | exact ⟨by omega, fun h => h⟩ | (intro h; first | (have := hD _ h; omega)) | (refine ⟨by omega, ?_⟩; intro h; first | (have := hD _ h; omega))) | clear FD | skip
    first | replace Fk2 := Fk2.mv1 G38 (by omega) | clear Fk2 | skip
    first | replace rF5 := rF5.mv1 G38 (by first | exact ⟨fun h => h, fun h => by have := h.1; have := h.2; omega⟩ | omega) | clear rF5 | skip
    first | replace Fk16 := Fk16.mv1 G38 (by omega) | clear Fk16 | skip
    replace HG := HG.new1 G38 (by first | (refine Or.inr ?_; omega) | (refine Or.inl ?_; simp; done))
    clear G38
    have Fk31 := Fs39; clear Fs39
    simp only [V.spliceL, V.cellsL] at Fk31
    refine V.run T_ok 1 rfl ?_
    refine V.nil ?_
    refine V.tN ?_
    refine V.seq ?_
    refine V.region ?_
    refine V.run T_ok 1 rfl ?_
    refine V.nil ?_
    refine V.tN ?_
    refine V.condT rfl (fun h7 => ?_) (fun h7 => ?_)
    ·
      try simp only [decide_eq_true_eq, decide_eq_false_iff_not, Bool.or_eq_true, Bool.and_eq_true, Bool.or_eq_false_iff, Bool.and_eq_false_iff, Bool.not_eq_true', Bool.not_eq_false', Int.not_lt, Int.not_le, Decidable.not_not, V.u8eq, V.S_inj, V.S_lit, V.S_lit2, V.bl] at h7
      try simp only [V.mk0, V.mk1, V.mk2, V.mk3] at h7
      refine V.region ?_
      refine V.run T_ok 2 rfl ?_
      refine V.loadO T_ok Fk31 rfl rfl rfl rfl rfl ?_
      refine V.mkStruct T_ok zero48 rfl rfl rfl rfl rfl ?_
      refine V.mkSlice T_ok zero48 rfl rfl sz48 rfl rfl rfl rfl rfl rfl ?_
      rintro k42 w45 s47 s48 G46 Fk43
      have z49 := V.Fr.size G46
      try replace Fk := Fk.gr G46
      try replace Fo := Fo.gr G46
      try replace FD := FD.gr G46
      try replace Fk2 := Fk2.gr G46
      try replace rF5 := rF5.gr G46
      try replace Fk16 := Fk16.gr G46
      try replace Fk31 := Fk31.gr G46
      replace HG := HG.grow G46
      clear G46
      have F44 := V.rowOfC (xs := ([((i : Int), ((clipR f t ((rgV bs (i : Int)).1) ((rgV bs (i : Int)).2)).1, (clipR f t ((rgV bs (i : Int)).1) ((rgV bs (i : Int)).2)).2))] : List (Int × ByteArray × ByteArray))) Fk43 (C := (V.Cod.pair (V.Cod.int .i64) (V.Cod.pair V.Cod.str V.Cod.str))) (V.reps_cons (x := ((i : Int), ((clipR f t ((rgV bs (i : Int)).1) ((rgV bs (i : Int)).2)).1, (clipR f t ((rgV bs (i : Int)).1) ((rgV bs (i : Int)).2)).2))) ⟨_, _, rfl, rfl, ⟨_, _, rfl, rfl, rfl⟩⟩ rfl rfl) rfl
      clear Fk43
      refine V.appendR (rF5) (V.From.flat V.flat_part (D' := V.None') (F44.sl.from Try.underlying43)) elT43_43 rfl rfl rfl rfl rfl (by first | omega | (simp only [List.length_take, List.length_drop, List.length_append, List.length_cons, List.length_nil, List.length_replicate, List.length_set, V.length_data, V.S_size]; omega)) (by unfold maxLen; first | omega | (simp only [List.length_take, List.length_drop, List.length_append, List.length_cons, List.length_nil, List.length_replicate, List.length_set, V.length_data, V.S_size]; omega)) (by omega) (by omega) (fun _ h => h.elim) (fun _ h => h.elim) ?_
      rintro a50 c51 w53 G54 s55 F52
      clear rF5
      clear F44
      have z56 := Go.RowKit.Below.size G54
      first | replace Fk := V.Cells.bl Fk G54 (by omega) | clear Fk | skip
      first | replace Fo := V.Sl.bl Fo G54 (by first | exact (fun _ h => by have := h.2; omega) | (intro k h; have := hD k h; omega)) | clear Fo | skip
      first | replace FD := FD.bl G54 (by first | exact ⟨by omega, fun j h => by have := h.2; omega⟩ | (first | omega | exact fun h => h | exact ⟨by omega, fun h => h⟩ | (intro h; first | (have := hD _ h; omega)) | (refine ⟨by omega, ?_⟩; intro h; first | (have := hD _ h; omega)))) | clear FD | skip
      first | replace Fk2 := V.Cells.bl Fk2 G54 (by omega) | clear Fk2 | skip
      first | replace Fk16 := V.Cells.bl Fk16 G54 (by omega) | clear Fk16 | skip
      first | replace Fk31 := V.Cells.bl Fk31 G54 (by omega) | clear Fk31 | skip
      replace HG := HG.bl (Go.RowKit.Below.mono G54 (by omega))
      clear G54
      refine V.run T_ok 1 rfl ?_
      refine V.nil ?_
      refine V.bN ?_
      refine V.tN ?_
      refine V.region ?_
      refine V.addN rfl rfl rfl rfl rfl (by first | omega | (simp only [List.length_take, List.length_drop, List.length_append, List.length_cons, List.length_nil, List.length_replicate, List.length_set, V.length_data, V.S_size]; omega)) (by first | omega | (simp only [List.length_take, List.length_drop, List.length_append, List.length_cons, List.length_nil, List.length_replicate, List.length_set, V.length_data, V.S_size]; omega)) ?_
      refine V.run T_ok 1 rfl ?_
      refine V.nil ?_
      refine V.tN ?_
      have hr57 : (ptV bs f t i) ++ ([((i : Int), ((clipR f t ((rgV bs (i : Int)).1) ((rgV bs (i : Int)).2)).1, (clipR f t ((rgV bs (i : Int)).1) ((rgV bs (i : Int)).2)).2))] : List (Int × ByteArray × ByteArray)) = ptV bs f t (i + 1) := (by rw [ptV_succ]; first | (rw [if_pos (by assumption)]; done) | (rw [if_pos (by assumption)]; rfl) | (rw [if_neg (by simp [*]), List.append_nil]))
      rw [hr57] at F52 ⊢
      clear hr57
      
      exact ⟨_, (by omega), HG, (by omega), Fk, Fo, FD, Fk2, (i + 1), a50, c51, rfl, (by omega), (by first | exact F52 | exact F52.mono (fun _ h => h) (by omega) (by omega)), rfl, rfl, rfl, rfl, rfl⟩
    ·
      try simp only [decide_eq_true_eq, decide_eq_false_iff_not, Bool.or_eq_true, Bool.and_eq_true, Bool.or_eq_false_iff, Bool.and_eq_false_iff, Bool.not_eq_true', Bool.not_eq_false', Int.not_lt, Int.not_le, Decidable.not_not, V.u8eq, V.S_inj, V.S_lit, V.S_lit2, V.bl] at h7
      try simp only [V.mk0, V.mk1, V.mk2, V.mk3] at h7
      refine V.skip ?_
      refine V.bN ?_
      refine V.tN ?_
      refine V.region ?_
      refine V.addN rfl rfl rfl rfl rfl (by first | omega | (simp only [List.length_take, List.length_drop, List.length_append, List.length_cons, List.length_nil, List.length_replicate, List.length_set, V.length_data, V.S_size]; omega)) (by first | omega | (simp only [List.length_take, List.length_drop, List.length_append, List.length_cons, List.length_nil, List.length_replicate, List.length_set, V.length_data, V.S_size]; omega)) ?_
      refine V.run T_ok 1 rfl ?_
      refine V.nil ?_
      refine V.tN ?_
      have hr58 : ptV bs f t i = ptV bs f t (i + 1) := (by rw [ptV_succ]; first | (rw [if_pos (by assumption)]; done) | (rw [if_pos (by assumption)]; rfl) | (rw [if_neg (by simp [*]), List.append_nil]))
      rw [hr58] at rF5 ⊢
      clear hr58
      
      exact ⟨_, (by omega), HG, (by omega), Fk, Fo, FD, Fk2, (i + 1), ra5, rc5, rfl, (by omega), (by first | exact rF5 | exact rF5.mono (fun _ h => h) (by omega) (by omega)), rfl, rfl, rfl, rfl, rfl⟩
  ·
    try simp only [decide_eq_true_eq, decide_eq_false_iff_not, Bool.or_eq_true, Bool.and_eq_true, Bool.or_eq_false_iff, Bool.and_eq_false_iff, Bool.not_eq_true', Bool.not_eq_false', Int.not_lt, Int.not_le, Decidable.not_not, V.u8eq, V.S_inj, V.S_lit, V.S_lit2, V.bl] at h3
    try simp only [V.mk0, V.mk1, V.mk2, V.mk3] at h3
    refine V.exit ?_
    refine V.tX ?_
    refine V.tX ?_
    refine V.bE ?_
    refine V.tN ?_
    refine V.seq ?_
    have hr59 : ptV bs f t i = ptV bs f t (bs.length - 1) := (by rw [show i = bs.length - 1 by omega])
    rw [hr59] at rF5 ⊢
    clear hr59
    refine V.region ?_
    refine V.run T_ok 2 rfl ?_
    refine V.nil ?_
    refine V.tN ?_
    refine V.ret ?_
    refine V.done rfl ?_
    exact ⟨ra5, rc5, (by first | rfl | simp only [List.length_set]), (by first | exact rF5 | exact rF5.mono (fun _ h => h) (by omega) (by omega)), HG⟩


def bnds (sp : List ByteArray) : List ByteArray := S [97] :: (sp ++ [S [123]])
def okAt (sp : List ByteArray) (j : Nat) : Bool := isKey (sp.getD j (S [])) && decide ((bnds sp).getD j (S []) < sp.getD j (S []))
/-- are these the splits of a directory? -/
def okB (sp : List ByteArray) : Bool := decide (sp.length < 4) && (List.range sp.length).all (okAt sp)
def eNew (sp : List ByteArray) : Int := if 4 ≤ sp.length then 142 else 51
theorem okB_len {sp : List ByteArray} (h : okB sp = true) : sp.length < 4 := by unfold okB at h; simp at h; exact h.1
theorem okB_at {sp : List ByteArray} (h : okB sp = true) {j : Nat} {x y : ByteArray} (hj : j < sp.length) (hx : sp[j] = x) (hb : j < (bnds sp).length) (hy : (bnds sp)[j] = y) : isKey x = true ∧ y < x := by
  unfold okB at h
  simp only [Bool.and_eq_true, List.all_eq_true, List.mem_range] at h
  have := h.2 j hj
  unfold okAt at this
  rw [getD_at hj hx, getD_at hb hy] at this
  simpa using this
theorem okB_key {sp : List ByteArray} (h : okB sp = true) {j : Nat} {x : ByteArray} (hj : j < sp.length) (hx : sp[j] = x) : isKey x = true := (okB_at h hj hx (by simp [bnds]; omega) rfl).1
theorem okB_of {sp : List ByteArray} (h : sp.length < 4) (ha : (List.range sp.length).all (okAt sp) = true) : okB sp = true := by unfold okB; simp [h]; simpa using ha
theorem okAt_of {sp : List ByteArray} {j : Nat} {x y : ByteArray} (hj : j < sp.length) (hx : sp[j] = x) (hb : j < (bnds sp).length) (hy : (bnds sp)[j] = y) (h1 : isKey x = true) (h2 : y < x) : okAt sp j = true := by
  unfold okAt; rw [getD_at hj hx, getD_at hb hy]; simp [h1, h2]
theorem all_succ {p : Nat → Bool} {i : Nat} (h : (List.range i).all p = true) (h2 : p i = true) : (List.range (i + 1)).all p = true := by rw [List.range_succ, List.all_append, h]; simp [h2]
theorem isKey_size {s : ByteArray} (h : isKey s = true) : s.size ≤ 8 := by unfold isKey at h; simp at h; omega
theorem bnds_len {sp : List ByteArray} : (bnds sp).length = sp.length + 2 := by simp [bnds]
theorem bnds_ok {sp : List ByteArray} (h : okB sp = true) : 1 ≤ (bnds sp).length ∧ (bnds sp).length ≤ 1000000 ∧ ∀ b ∈ bnds sp, b.size ≤ 140737488355327 := by
  have h4 := okB_len h
  refine ⟨by simp [bnds], by simp [bnds]; omega, fun b hb => ?_⟩
  simp only [bnds, List.mem_cons, List.mem_append, List.not_mem_nil, or_false] at hb
  rcases hb with rfl | hb | rfl
  · exact (by decide : (1 : Nat) ≤ 140737488355327)
  · obtain ⟨j, hj, rfl⟩ := List.mem_iff_getElem.1 hb
    have := isKey_size (okB_key h hj rfl); omega
  · exact (by decide : (1 : Nat) ≤ 140737488355327)

set_option maxHeartbeats 4000000 in
set_option maxRecDepth 10000 in
theorem new_ok {w : World}  {D_splits : Nat → Prop} {c_splits : Nat} {a_splits : Option Addr} {splits : List ByteArray} (F_splits : Sl V.Cod.str w D_splits a_splits c_splits splits) (hD_splits : ∀ k, D_splits k → k < w.heap.size) (hok : okB splits = true) (hs : ∀ s ∈ splits, s.size ≤ 9223372036854775807) :
    Meets Try.prog 10 [.slice a_splits splits.length c_splits] w fun r w' => ∃ (rk6 : Nat), r = .tuple #[.pointer (some ⟨rk6, 0, none⟩), .int .i64 0] ∧ (w.heap.size ≤ rk6 ∧ rk6 < w'.heap.size) ∧ Dir w' rk6 (fun j => w.heap.size ≤ j ∧ j < w'.heap.size) (bnds splits) ∧ Gr w w' := by
  have hl4 := okB_len hok
  have hbl := bnds_len (sp := splits)
  have HG := V.Fr.refl [] w
  refine V.enter (n := 43) Try.func10 rfl rfl (by decide) rfl ?_
  refine V.seq ?_
  refine V.region ?_
  refine V.run T_ok 2 rfl ?_
  refine V.nil ?_
  refine V.tN ?_
  refine V.seq ?_
  refine V.seq ?_
  refine V.region ?_
  refine V.run T_ok 3 rfl ?_
  refine V.nil ?_
  refine V.tN ?_
  refine V.condN rfl (by (exact decide_eq_false (by omega))) ?_
  refine V.skip ?_
  refine V.tN ?_
  refine V.seq ?_
  refine V.region ?_
  refine V.call (all_spec) rfl rfl rfl ?_
  rintro _ w1 ⟨rfl, G2⟩
  have z3 := V.Fr.size G2
  try replace F_splits := F_splits.gr G2
  replace HG := HG.grow G2
  clear G2
  refine V.alloc zero24 rfl rfl rfl ?_
  rintro k4 w6 s8 s9 G7 Fk5
  have z10 := V.Fr.size G7
  try replace F_splits := F_splits.gr G7
  replace HG := HG.grow G7
  clear G7
  try simp only [V.cellsL, V.spliceL] at Fk5
  refine V.storeO Fk5 rfl rfl rfl rfl sz24 rfl rfl rfl rfl ?_
  rintro w11 G12 z14 Fs13
  clear Fk5
  have z15 := V.Fr.size G12
  first | replace F_splits := F_splits.mv1 G12 (by first | exact (fun h => by have := hD_splits _ h; omega) | omega) | clear F_splits | skip
  replace HG := HG.new1 G12 (by first | (refine Or.inr ?_; omega) | (refine Or.inl ?_; simp; done))
  clear G12
  have Fk5 := Fs13; clear Fs13
  simp only [V.spliceL, V.cellsL] at Fk5
  refine V.nil ?_
  refine V.tN ?_
  refine V.seq ?_
  refine V.region ?_
  refine V.run T_ok 1 rfl ?_
  refine V.loadO T_ok Fk5 rfl rfl rfl rfl rfl ?_
  refine V.mkSlice T_ok zero9 rfl rfl sz9 rfl rfl rfl rfl rfl rfl ?_
  rintro k16 w19 s21 s22 G20 Fk17
  have z23 := V.Fr.size G20
  try replace F_splits := F_splits.gr G20
  try replace Fk5 := Fk5.gr G20
  replace HG := HG.grow G20
  clear G20
  have F18 := V.rowOfS (xs := ([S [97]] : List ByteArray)) Fk17 rfl rfl
  clear Fk17
  refine V.run T_ok 2 rfl ?_
  refine V.loadO T_ok Fk5 rfl rfl rfl rfl rfl ?_
  refine V.mkSlice T_ok zero9 rfl rfl sz9 rfl rfl rfl rfl rfl rfl ?_
  rintro k24 w27 s29 s30 G28 Fk25
  have z31 := V.Fr.size G28
  try replace F_splits := F_splits.gr G28
  try replace Fk5 := Fk5.gr G28
  try replace F18 := F18.gr G28
  replace HG := HG.grow G28
  clear G28
  have F26 := V.rowOfS (xs := ([S [123]] : List ByteArray)) Fk25 rfl rfl
  clear Fk25
  refine V.mkSlice T_ok zero22 rfl rfl sz22 rfl rfl rfl rfl rfl rfl ?_
  rintro k32 w35 s37 s38 G36 Fk33
  have z39 := V.Fr.size G36
  try replace F_splits := F_splits.gr G36
  try replace Fk5 := Fk5.gr G36
  try replace F18 := F18.gr G36
  try replace F26 := F26.gr G36
  replace HG := HG.grow G36
  clear G36
  have F34 : Sl V.Cod.str.sl w35 (fun k => k = k32 ∨ (V.In k16 (k16 + 1)) k ∨ D_splits k ∨ (V.In k24 (k24 + 1)) k) (some ⟨k32, 0, none⟩) ([([S [97]] : List ByteArray), splits, ([S [123]] : List ByteArray)] : List (List ByteArray)).length ([([S [97]] : List ByteArray), splits, ([S [123]] : List ByteArray)] : List (List ByteArray)) := V.Cells.sl Fk33 (V.reps_cons (x := ([S [97]] : List ByteArray)) ⟨_, _, rfl, F18.sl.mono (fun k h => .inr (.inl h))⟩ (V.reps_cons (x := splits) ⟨_, _, rfl, F_splits.mono (fun k h => .inr (.inr (.inl h)))⟩ (V.reps_cons (x := ([S [123]] : List ByteArray)) ⟨_, _, rfl, F26.sl.mono (fun k h => .inr (.inr (.inr (h))))⟩ rfl rfl) rfl) rfl) (.inl rfl) (by simp [maxLen])
  have hDu40 : ∀ k, (fun k => k = k32 ∨ (V.In k16 (k16 + 1)) k ∨ D_splits k ∨ (V.In k24 (k24 + 1)) k) k → k < w35.heap.size := by intro k h; (try dsimp only at h); rcases h with h | h | h | h <;> first | omega | (have := h.2; omega) | (have := h.1; omega) | (have := hD_splits k h; omega)
  refine V.call (concat_spec F34 (fun k hk => by have := hDu40 k hk; omega) (by simp only [List.flatten_cons, List.flatten_nil, List.length_append, List.length_cons, List.length_nil]; omega)) rfl rfl rfl ?_
  rintro _ w44 ⟨a41, c42, rfl, F43, G45⟩
  have z46 := V.Fr.size G45
  try replace F_splits := F_splits.gr G45
  try replace Fk5 := Fk5.gr G45
  try replace F18 := F18.gr G45
  try replace F26 := F26.gr G45
  try replace Fk33 := Fk33.gr G45
  try replace F34 := F34.gr G45
  replace HG := HG.grow G45
  clear G45
  refine V.run T_ok 1 rfl ?_
  refine V.nil ?_
  refine V.tN ?_
  refine V.seq ?_
  refine V.seq ?_
  have hr47 : ([([S [97]] : List ByteArray), splits, ([S [123]] : List ByteArray)] : List (List ByteArray)).flatten = bnds splits := (by simp [bnds])
  rw [hr47] at F43 ⊢
  clear hr47
  refine V.region ?_
  refine V.run T_ok 3 rfl ?_
  refine V.nil ?_
  refine V.tN ?_
  refine V.block ?_
  refine V.loopM (fun m e v49 => Fr [] w v49 ∧ w44.heap.size ≤ v49.heap.size ∧ Sl V.Cod.str v49 D_splits a_splits c_splits splits ∧ Cells v49 k4 [.string (S [97]), .string (S [123])] 24 ∧ V.Row V.Cod.str 9 v49 V.None' k16 (k16 + 1) (some ⟨k16, 0, none⟩) (([S [97]] : List ByteArray).length) ([S [97]] : List ByteArray) ∧ V.Row V.Cod.str 9 v49 V.None' k24 (k24 + 1) (some ⟨k24, 0, none⟩) (([S [123]] : List ByteArray).length) ([S [123]] : List ByteArray) ∧ Cells v49 k32 [.slice (some ⟨k16, 0, none⟩) 1 1, .slice a_splits splits.length c_splits, .slice (some ⟨k24, 0, none⟩) 1 1] 22 ∧ Sl V.Cod.str.sl v49 (fun k => k = k32 ∨ (V.In k16 (k16 + 1)) k ∨ D_splits k ∨ (V.In k24 (k24 + 1)) k) (some ⟨k32, 0, none⟩) (([([S [97]] : List ByteArray), splits, ([S [123]] : List ByteArray)] : List (List ByteArray)).length) ([([S [97]] : List ByteArray), splits, ([S [123]] : List ByteArray)] : List (List ByteArray)) ∧ V.Row V.Cod.str 9 v49 V.None' w35.heap.size w44.heap.size a41 c42 (bnds splits) ∧ ∃ (i : Nat) , m = splits.length - i ∧ i ≤ splits.length ∧ e 5 = .slice a41 (bnds splits).length c42 ∧ e 21 = .slice a_splits splits.length c_splits ∧ e 22 = .int .i64 (splits.length : Int) ∧ e 23 = .int .i64 (i : Int)) ?_ ?_
  ·
    exact ⟨_, HG, (by omega), F_splits, Fk5, F18, F26, Fk33, F34, F43, (0), rfl, (by omega), rfl, rfl, rfl, rfl⟩
  clear HG F_splits Fk5 F18 F26 Fk33 F34 F43
  rintro _ e v49 ⟨HG, z50, F_splits, Fk5, F18, F26, Fk33, F34, F43, i, rfl, hi, he0_5, he0_21, he0_22, he0_23⟩
  refine V.knownC (t := 5) he0_5 ?_
  refine V.knownC (t := 21) he0_21 ?_
  refine V.knownC (t := 22) he0_22 ?_
  refine V.knownC (t := 23) he0_23 ?_
  refine V.seq ?_
  refine V.region ?_
  refine V.run T_ok 1 rfl ?_
  refine V.nil ?_
  refine V.tN ?_
  refine V.seq ?_
  refine V.condT rfl (fun h6 => ?_) (fun h6 => ?_)
  ·
    try simp only [decide_eq_true_eq, decide_eq_false_iff_not, Bool.or_eq_true, Bool.and_eq_true, Bool.or_eq_false_iff, Bool.and_eq_false_iff, Bool.not_eq_true', Bool.not_eq_false', Int.not_lt, Int.not_le, Decidable.not_not, V.u8eq, V.S_inj, V.S_lit, V.S_lit2, V.bl] at h6
    try simp only [V.mk0, V.mk1, V.mk2, V.mk3] at h6
    refine V.skip ?_
    refine V.tN ?_
    refine V.seq ?_
    refine V.block ?_
    refine V.seq ?_
    refine V.region ?_
    refine V.run T_ok 1 rfl ?_
    refine V.elem T_ok F_splits rfl rfl sz9 rfl rfl rfl rfl (by first | omega | (simp only [List.length_take, List.length_drop, List.length_append, List.length_cons, List.length_nil, List.length_replicate, List.length_set, V.length_data, V.S_size]; omega)) (by first | omega | (simp only [List.length_take, List.length_drop, List.length_append, List.length_cons, List.length_nil, List.length_replicate, List.length_set, V.length_data, V.S_size]; omega)) ?_
    rintro b51 o52 cs53 hx54 hb55 hR58 hA56
    obtain ⟨x57, hx57⟩ : ∃ z', splits[((i : Int)).toNat] = z' := ⟨_, rfl⟩
    rw [hx57] at hR58
    obtain rfl := hR58
    try simp only [Int.toNat_natCast] at hx57 hx54
    refine V.loadA T_ok (o0 := o52) (off := 0) hA56 rfl rfl rfl rfl rfl ?_
    refine V.run T_ok 2 rfl ?_
    refine V.nil ?_
    refine V.tN ?_
    refine V.seq ?_
    refine V.region ?_
    refine V.run T_ok 1 rfl ?_
    have hms := hs x57 (by rw [← hx57]; exact List.getElem_mem _)
    have hka := okB_key hok (by omega) hx57
    refine V.call (key_spec (s := x57) (by first | omega | decide | (simp only [V.S_size, List.length_cons, List.length_nil]; omega))) rfl rfl rfl ?_
    rintro _ v49_ ⟨rfl, rfl⟩
    refine V.run T_ok 2 rfl ?_
    refine V.splitF (j := 3) (t := 31) rfl rfl (by (simp [hka])) ?_
    refine V.run T_ok 3 rfl ?_
    refine V.yes rfl rfl rfl ?_
    refine V.elem T_ok F43.sl rfl rfl sz9 rfl rfl rfl rfl (by first | omega | (simp only [List.length_take, List.length_drop, List.length_append, List.length_cons, List.length_nil, List.length_replicate, List.length_set, V.length_data, V.S_size]; omega)) (by first | omega | (simp only [List.length_take, List.length_drop, List.length_append, List.length_cons, List.length_nil, List.length_replicate, List.length_set, V.length_data, V.S_size]; omega)) ?_
    rintro b60 o61 cs62 hx63 hb64 hR67 hA65
    obtain ⟨x66, hx66⟩ : ∃ z', (bnds splits)[((i : Int)).toNat] = z' := ⟨_, rfl⟩
    rw [hx66] at hR67
    obtain rfl := hR67
    try simp only [Int.toNat_natCast] at hx66 hx63
    refine V.yes rfl rfl rfl ?_
    refine V.loadA T_ok (o0 := o61) (off := 0) hA65 rfl rfl rfl rfl rfl ?_
    refine V.run T_ok 2 rfl ?_
    refine V.nil ?_
    refine V.tN ?_
    refine V.condN rfl (by (have hkb := okB_at hok (by omega) (by assumption) (by omega) (by assumption); (try simp only [V.bl]); grind)) ?_
    refine V.skip ?_
    refine V.bN ?_
    refine V.tN ?_
    refine V.region ?_
    refine V.addN rfl rfl rfl rfl rfl (by first | omega | (simp only [List.length_take, List.length_drop, List.length_append, List.length_cons, List.length_nil, List.length_replicate, List.length_set, V.length_data, V.S_size]; omega)) (by first | omega | (simp only [List.length_take, List.length_drop, List.length_append, List.length_cons, List.length_nil, List.length_replicate, List.length_set, V.length_data, V.S_size]; omega)) ?_
    refine V.run T_ok 1 rfl ?_
    refine V.nil ?_
    refine V.tN ?_
    exact ⟨_, (by omega), HG, (by omega), F_splits, Fk5, F18, F26, Fk33, F34, F43, (i + 1), rfl, (by omega), rfl, rfl, rfl, rfl⟩
  ·
    try simp only [decide_eq_true_eq, decide_eq_false_iff_not, Bool.or_eq_true, Bool.and_eq_true, Bool.or_eq_false_iff, Bool.and_eq_false_iff, Bool.not_eq_true', Bool.not_eq_false', Int.not_lt, Int.not_le, Decidable.not_not, V.u8eq, V.S_inj, V.S_lit, V.S_lit2, V.bl] at h6
    try simp only [V.mk0, V.mk1, V.mk2, V.mk3] at h6
    refine V.exit ?_
    refine V.tX ?_
    refine V.tX ?_
    refine V.bE ?_
    refine V.tN ?_
    refine V.seq ?_
    refine V.region ?_
    refine V.run T_ok 1 rfl ?_
    refine V.mkStruct T_ok zero58 rfl rfl rfl rfl rfl ?_
    refine V.box rfl rfl rfl rfl ?_
    rintro k68 w70 s72 s73 G71 Fk69
    have z74 := V.Fr.size G71
    try replace F_splits := F_splits.gr G71
    try replace Fk5 := Fk5.gr G71
    try replace F18 := F18.gr G71
    try replace F26 := F26.gr G71
    try replace Fk33 := Fk33.gr G71
    try replace F34 := F34.gr G71
    try replace F43 := F43.gr G71
    replace HG := HG.grow G71
    clear G71
    try simp only [V.cellsL, V.spliceL] at Fk69
    refine V.run T_ok 2 rfl ?_
    refine V.nil ?_
    refine V.tN ?_
    refine V.ret ?_
    refine V.done rfl ?_
    exact ⟨k68, (by first | rfl | simp only [List.length_set]), ⟨by omega, by omega⟩, ⟨⟨_, _, Fk69, F43.sl.mono (fun k h => ⟨by have := h.1; omega, by have := h.2; omega⟩)⟩, bnds_ok hok⟩, HG⟩

set_option maxHeartbeats 4000000 in
set_option maxRecDepth 10000 in
theorem new_no {w : World}  {D_splits : Nat → Prop} {c_splits : Nat} {a_splits : Option Addr} {splits : List ByteArray} (F_splits : Sl V.Cod.str w D_splits a_splits c_splits splits) (hD_splits : ∀ k, D_splits k → k < w.heap.size) (hok : okB splits = false) (hs : ∀ s ∈ splits, s.size ≤ 9223372036854775807) :
    Meets Try.prog 10 [.slice a_splits splits.length c_splits] w fun r w' => r = .tuple #[.pointer none, .int .i64 (eNew splits)] ∧ Gr w w' := by
  have hbl := bnds_len (sp := splits)
  have HG := V.Fr.refl [] w
  refine V.enter (n := 43) Try.func10 rfl rfl (by decide) rfl ?_
  refine V.seq ?_
  refine V.region ?_
  refine V.run T_ok 2 rfl ?_
  refine V.nil ?_
  refine V.tN ?_
  refine V.seq ?_
  refine V.seq ?_
  refine V.region ?_
  refine V.run T_ok 3 rfl ?_
  refine V.nil ?_
  refine V.tN ?_
  refine V.condT rfl (fun h1 => ?_) (fun h1 => ?_)
  ·
    try simp only [decide_eq_true_eq, decide_eq_false_iff_not, Bool.or_eq_true, Bool.and_eq_true, Bool.or_eq_false_iff, Bool.and_eq_false_iff, Bool.not_eq_true', Bool.not_eq_false', Int.not_lt, Int.not_le, Decidable.not_not, V.u8eq, V.S_inj, V.S_lit, V.S_lit2, V.bl] at h1
    try simp only [V.mk0, V.mk1, V.mk2, V.mk3] at h1
    refine V.seq ?_
    refine V.region ?_
    refine V.run T_ok 2 rfl ?_
    refine V.nil ?_
    refine V.tN ?_
    refine V.ret ?_
    refine V.tR ?_
    refine V.done rfl ?_
    rw [show eNew splits = 142 by unfold eNew; rw [if_pos (by omega)]]
    exact ⟨(by first | rfl | simp only [List.length_set]), HG⟩
  ·
    try simp only [decide_eq_true_eq, decide_eq_false_iff_not, Bool.or_eq_true, Bool.and_eq_true, Bool.or_eq_false_iff, Bool.and_eq_false_iff, Bool.not_eq_true', Bool.not_eq_false', Int.not_lt, Int.not_le, Decidable.not_not, V.u8eq, V.S_inj, V.S_lit, V.S_lit2, V.bl] at h1
    try simp only [V.mk0, V.mk1, V.mk2, V.mk3] at h1
    refine V.skip ?_
    refine V.tN ?_
    refine V.seq ?_
    refine V.region ?_
    refine V.call (all_spec) rfl rfl rfl ?_
    rintro _ w1 ⟨rfl, G2⟩
    have z3 := V.Fr.size G2
    try replace F_splits := F_splits.gr G2
    replace HG := HG.grow G2
    clear G2
    refine V.alloc zero24 rfl rfl rfl ?_
    rintro k4 w6 s8 s9 G7 Fk5
    have z10 := V.Fr.size G7
    try replace F_splits := F_splits.gr G7
    replace HG := HG.grow G7
    clear G7
    try simp only [V.cellsL, V.spliceL] at Fk5
    refine V.storeO Fk5 rfl rfl rfl rfl sz24 rfl rfl rfl rfl ?_
    rintro w11 G12 z14 Fs13
    clear Fk5
    have z15 := V.Fr.size G12
    first | replace F_splits := F_splits.mv1 G12 (by first | exact (fun h => by have := hD_splits _ h; omega) | omega) | clear F_splits | skip
    replace HG := HG.new1 G12 (by first | (refine Or.inr ?_; omega) | (refine Or.inl ?_; simp; done))
    clear G12
    have Fk5 := Fs13; clear Fs13
    simp only [V.spliceL, V.cellsL] at Fk5
    refine V.nil ?_
    refine V.tN ?_
    refine V.seq ?_
    refine V.region ?_
    refine V.run T_ok 1 rfl ?_
    refine V.loadO T_ok Fk5 rfl rfl rfl rfl rfl ?_
    refine V.mkSlice T_ok zero9 rfl rfl sz9 rfl rfl rfl rfl rfl rfl ?_
    rintro k16 w19 s21 s22 G20 Fk17
    have z23 := V.Fr.size G20
    try replace F_splits := F_splits.gr G20
    try replace Fk5 := Fk5.gr G20
    replace HG := HG.grow G20
    clear G20
    have F18 := V.rowOfS (xs := ([S [97]] : List ByteArray)) Fk17 rfl rfl
    clear Fk17
    refine V.run T_ok 2 rfl ?_
    refine V.loadO T_ok Fk5 rfl rfl rfl rfl rfl ?_
    refine V.mkSlice T_ok zero9 rfl rfl sz9 rfl rfl rfl rfl rfl rfl ?_
    rintro k24 w27 s29 s30 G28 Fk25
    have z31 := V.Fr.size G28
    try replace F_splits := F_splits.gr G28
    try replace Fk5 := Fk5.gr G28
    try replace F18 := F18.gr G28
    replace HG := HG.grow G28
    clear G28
    have F26 := V.rowOfS (xs := ([S [123]] : List ByteArray)) Fk25 rfl rfl
    clear Fk25
    refine V.mkSlice T_ok zero22 rfl rfl sz22 rfl rfl rfl rfl rfl rfl ?_
    rintro k32 w35 s37 s38 G36 Fk33
    have z39 := V.Fr.size G36
    try replace F_splits := F_splits.gr G36
    try replace Fk5 := Fk5.gr G36
    try replace F18 := F18.gr G36
    try replace F26 := F26.gr G36
    replace HG := HG.grow G36
    clear G36
    have F34 : Sl V.Cod.str.sl w35 (fun k => k = k32 ∨ (V.In k16 (k16 + 1)) k ∨ D_splits k ∨ (V.In k24 (k24 + 1)) k) (some ⟨k32, 0, none⟩) ([([S [97]] : List ByteArray), splits, ([S [123]] : List ByteArray)] : List (List ByteArray)).length ([([S [97]] : List ByteArray), splits, ([S [123]] : List ByteArray)] : List (List ByteArray)) := V.Cells.sl Fk33 (V.reps_cons (x := ([S [97]] : List ByteArray)) ⟨_, _, rfl, F18.sl.mono (fun k h => .inr (.inl h))⟩ (V.reps_cons (x := splits) ⟨_, _, rfl, F_splits.mono (fun k h => .inr (.inr (.inl h)))⟩ (V.reps_cons (x := ([S [123]] : List ByteArray)) ⟨_, _, rfl, F26.sl.mono (fun k h => .inr (.inr (.inr (h))))⟩ rfl rfl) rfl) rfl) (.inl rfl) (by simp [maxLen])
    have hDu40 : ∀ k, (fun k => k = k32 ∨ (V.In k16 (k16 + 1)) k ∨ D_splits k ∨ (V.In k24 (k24 + 1)) k) k → k < w35.heap.size := by intro k h; (try dsimp only at h); rcases h with h | h | h | h <;> first | omega | (have := h.2; omega) | (have := h.1; omega) | (have := hD_splits k h; omega)
    refine V.call (concat_spec F34 (fun k hk => by have := hDu40 k hk; omega) (by simp only [List.flatten_cons, List.flatten_nil, List.length_append, List.length_cons, List.length_nil]; omega)) rfl rfl rfl ?_
    rintro _ w44 ⟨a41, c42, rfl, F43, G45⟩
    have z46 := V.Fr.size G45
    try replace F_splits := F_splits.gr G45
    try replace Fk5 := Fk5.gr G45
    try replace F18 := F18.gr G45
    try replace F26 := F26.gr G45
    try replace Fk33 := Fk33.gr G45
    try replace F34 := F34.gr G45
    replace HG := HG.grow G45
    clear G45
    refine V.run T_ok 1 rfl ?_
    refine V.nil ?_
    refine V.tN ?_
    refine V.seq ?_
    refine V.seq ?_
    have hr47 : ([([S [97]] : List ByteArray), splits, ([S [123]] : List ByteArray)] : List (List ByteArray)).flatten = bnds splits := (by simp [bnds])
    rw [hr47] at F43 ⊢
    clear hr47
    refine V.region ?_
    refine V.run T_ok 3 rfl ?_
    refine V.nil ?_
    refine V.tN ?_
    refine V.block ?_
    refine V.loopM (fun m e v49 => Fr [] w v49 ∧ w44.heap.size ≤ v49.heap.size ∧ Sl V.Cod.str v49 D_splits a_splits c_splits splits ∧ Cells v49 k4 [.string (S [97]), .string (S [123])] 24 ∧ V.Row V.Cod.str 9 v49 V.None' k16 (k16 + 1) (some ⟨k16, 0, none⟩) (([S [97]] : List ByteArray).length) ([S [97]] : List ByteArray) ∧ V.Row V.Cod.str 9 v49 V.None' k24 (k24 + 1) (some ⟨k24, 0, none⟩) (([S [123]] : List ByteArray).length) ([S [123]] : List ByteArray) ∧ Cells v49 k32 [.slice (some ⟨k16, 0, none⟩) 1 1, .slice a_splits splits.length c_splits, .slice (some ⟨k24, 0, none⟩) 1 1] 22 ∧ Sl V.Cod.str.sl v49 (fun k => k = k32 ∨ (V.In k16 (k16 + 1)) k ∨ D_splits k ∨ (V.In k24 (k24 + 1)) k) (some ⟨k32, 0, none⟩) (([([S [97]] : List ByteArray), splits, ([S [123]] : List ByteArray)] : List (List ByteArray)).length) ([([S [97]] : List ByteArray), splits, ([S [123]] : List ByteArray)] : List (List ByteArray)) ∧ V.Row V.Cod.str 9 v49 V.None' w35.heap.size w44.heap.size a41 c42 (bnds splits) ∧ ∃ (i : Nat) , m = splits.length - i ∧ i ≤ splits.length ∧ (List.range i).all (okAt splits) = true ∧ e 5 = .slice a41 (bnds splits).length c42 ∧ e 21 = .slice a_splits splits.length c_splits ∧ e 22 = .int .i64 (splits.length : Int) ∧ e 23 = .int .i64 (i : Int)) ?_ ?_
    ·
      exact ⟨_, HG, (by omega), F_splits, Fk5, F18, F26, Fk33, F34, F43, (0), rfl, (by omega), (rfl), rfl, rfl, rfl, rfl⟩
    clear HG F_splits Fk5 F18 F26 Fk33 F34 F43
    rintro _ e v49 ⟨HG, z50, F_splits, Fk5, F18, F26, Fk33, F34, F43, i, rfl, hi, hall, he0_5, he0_21, he0_22, he0_23⟩
    refine V.knownC (t := 5) he0_5 ?_
    refine V.knownC (t := 21) he0_21 ?_
    refine V.knownC (t := 22) he0_22 ?_
    refine V.knownC (t := 23) he0_23 ?_
    refine V.seq ?_
    refine V.region ?_
    refine V.run T_ok 1 rfl ?_
    refine V.nil ?_
    refine V.tN ?_
    refine V.seq ?_
    refine V.condT rfl (fun h6 => ?_) (fun h6 => ?_)
    ·
      try simp only [decide_eq_true_eq, decide_eq_false_iff_not, Bool.or_eq_true, Bool.and_eq_true, Bool.or_eq_false_iff, Bool.and_eq_false_iff, Bool.not_eq_true', Bool.not_eq_false', Int.not_lt, Int.not_le, Decidable.not_not, V.u8eq, V.S_inj, V.S_lit, V.S_lit2, V.bl] at h6
      try simp only [V.mk0, V.mk1, V.mk2, V.mk3] at h6
      refine V.skip ?_
      refine V.tN ?_
      refine V.seq ?_
      refine V.block ?_
      refine V.seq ?_
      refine V.region ?_
      refine V.run T_ok 1 rfl ?_
      refine V.elem T_ok F_splits rfl rfl sz9 rfl rfl rfl rfl (by first | omega | (simp only [List.length_take, List.length_drop, List.length_append, List.length_cons, List.length_nil, List.length_replicate, List.length_set, V.length_data, V.S_size]; omega)) (by first | omega | (simp only [List.length_take, List.length_drop, List.length_append, List.length_cons, List.length_nil, List.length_replicate, List.length_set, V.length_data, V.S_size]; omega)) ?_
      rintro b51 o52 cs53 hx54 hb55 hR58 hA56
      obtain ⟨x57, hx57⟩ : ∃ z', splits[((i : Int)).toNat] = z' := ⟨_, rfl⟩
      rw [hx57] at hR58
      obtain rfl := hR58
      try simp only [Int.toNat_natCast] at hx57 hx54
      refine V.loadA T_ok (o0 := o52) (off := 0) hA56 rfl rfl rfl rfl rfl ?_
      refine V.run T_ok 2 rfl ?_
      refine V.nil ?_
      refine V.tN ?_
      refine V.seq ?_
      refine V.region ?_
      refine V.run T_ok 1 rfl ?_
      have hms := hs x57 (by rw [← hx57]; exact List.getElem_mem _)
      refine V.call (key_spec (s := x57) (by first | omega | decide | (simp only [V.S_size, List.length_cons, List.length_nil]; omega))) rfl rfl rfl ?_
      rintro _ v49_ ⟨rfl, rfl⟩
      refine V.run T_ok 2 rfl ?_
      refine V.split (j := 3) (t := 31) rfl rfl (fun g8_3 => ?_) (fun g8_3 => ?_)
      ·
        try simp only [decide_eq_true_eq, decide_eq_false_iff_not, Bool.or_eq_true, Bool.and_eq_true, Bool.or_eq_false_iff, Bool.and_eq_false_iff, Bool.not_eq_true', Bool.not_eq_false', Int.not_lt, Int.not_le, Decidable.not_not, V.u8eq, V.S_inj, V.S_lit, V.S_lit2, V.bl] at g8_3
        try simp only [V.mk0, V.mk1, V.mk2, V.mk3] at g8_3
        refine V.run T_ok 7 rfl ?_
        refine V.nil ?_
        refine V.tN ?_
        refine V.condY rfl rfl ?_
        refine V.seq ?_
        refine V.region ?_
        refine V.run T_ok 2 rfl ?_
        refine V.nil ?_
        refine V.tN ?_
        refine V.ret ?_
        refine V.bR ?_
        refine V.tR ?_
        refine V.tR ?_
        refine V.bR ?_
        refine V.tR ?_
        refine V.done rfl ?_
        rw [show eNew splits = 51 by unfold eNew; rw [if_neg (by omega)]]
        exact ⟨(by first | rfl | simp only [List.length_set]), HG⟩
      ·
        try simp only [decide_eq_true_eq, decide_eq_false_iff_not, Bool.or_eq_true, Bool.and_eq_true, Bool.or_eq_false_iff, Bool.and_eq_false_iff, Bool.not_eq_true', Bool.not_eq_false', Int.not_lt, Int.not_le, Decidable.not_not, V.u8eq, V.S_inj, V.S_lit, V.S_lit2, V.bl] at g8_3
        try simp only [V.mk0, V.mk1, V.mk2, V.mk3] at g8_3
        refine V.run T_ok 3 rfl ?_
        refine V.yes rfl rfl rfl ?_
        refine V.elem T_ok F43.sl rfl rfl sz9 rfl rfl rfl rfl (by first | omega | (simp only [List.length_take, List.length_drop, List.length_append, List.length_cons, List.length_nil, List.length_replicate, List.length_set, V.length_data, V.S_size]; omega)) (by first | omega | (simp only [List.length_take, List.length_drop, List.length_append, List.length_cons, List.length_nil, List.length_replicate, List.length_set, V.length_data, V.S_size]; omega)) ?_
        rintro b60 o61 cs62 hx63 hb64 hR67 hA65
        obtain ⟨x66, hx66⟩ : ∃ z', (bnds splits)[((i : Int)).toNat] = z' := ⟨_, rfl⟩
        rw [hx66] at hR67
        obtain rfl := hR67
        try simp only [Int.toNat_natCast] at hx66 hx63
        refine V.yes rfl rfl rfl ?_
        refine V.loadA T_ok (o0 := o61) (off := 0) hA65 rfl rfl rfl rfl rfl ?_
        refine V.run T_ok 2 rfl ?_
        refine V.nil ?_
        refine V.tN ?_
        refine V.condT rfl (fun h8 => ?_) (fun h8 => ?_)
        ·
          try simp only [decide_eq_true_eq, decide_eq_false_iff_not, Bool.or_eq_true, Bool.and_eq_true, Bool.or_eq_false_iff, Bool.and_eq_false_iff, Bool.not_eq_true', Bool.not_eq_false', Int.not_lt, Int.not_le, Decidable.not_not, V.u8eq, V.S_inj, V.S_lit, V.S_lit2, V.bl] at h8
          try simp only [V.mk0, V.mk1, V.mk2, V.mk3] at h8
          refine V.seq ?_
          refine V.region ?_
          refine V.run T_ok 2 rfl ?_
          refine V.nil ?_
          refine V.tN ?_
          refine V.ret ?_
          refine V.bR ?_
          refine V.tR ?_
          refine V.tR ?_
          refine V.bR ?_
          refine V.tR ?_
          refine V.done rfl ?_
          rw [show eNew splits = 51 by unfold eNew; rw [if_neg (by omega)]]
          exact ⟨(by first | rfl | simp only [List.length_set]), HG⟩
        ·
          try simp only [decide_eq_true_eq, decide_eq_false_iff_not, Bool.or_eq_true, Bool.and_eq_true, Bool.or_eq_false_iff, Bool.and_eq_false_iff, Bool.not_eq_true', Bool.not_eq_false', Int.not_lt, Int.not_le, Decidable.not_not, V.u8eq, V.S_inj, V.S_lit, V.S_lit2, V.bl] at h8
          try simp only [V.mk0, V.mk1, V.mk2, V.mk3] at h8
          refine V.skip ?_
          refine V.bN ?_
          refine V.tN ?_
          refine V.region ?_
          refine V.addN rfl rfl rfl rfl rfl (by first | omega | (simp only [List.length_take, List.length_drop, List.length_append, List.length_cons, List.length_nil, List.length_replicate, List.length_set, V.length_data, V.S_size]; omega)) (by first | omega | (simp only [List.length_take, List.length_drop, List.length_append, List.length_cons, List.length_nil, List.length_replicate, List.length_set, V.length_data, V.S_size]; omega)) ?_
          refine V.run T_ok 1 rfl ?_
          refine V.nil ?_
          refine V.tN ?_
          have hoka := all_succ hall (okAt_of (by omega) hx57 (by omega) hx66 (by first | assumption | simpa using h8) (by grind))
          exact ⟨_, (by omega), HG, (by omega), F_splits, Fk5, F18, F26, Fk33, F34, F43, (i + 1), rfl, (by omega), (hoka), rfl, rfl, rfl, rfl⟩
    ·
      try simp only [decide_eq_true_eq, decide_eq_false_iff_not, Bool.or_eq_true, Bool.and_eq_true, Bool.or_eq_false_iff, Bool.and_eq_false_iff, Bool.not_eq_true', Bool.not_eq_false', Int.not_lt, Int.not_le, Decidable.not_not, V.u8eq, V.S_inj, V.S_lit, V.S_lit2, V.bl] at h6
      try simp only [V.mk0, V.mk1, V.mk2, V.mk3] at h6
      refine V.exit ?_
      refine V.tX ?_
      refine V.tX ?_
      refine V.bE ?_
      refine V.tN ?_
      refine V.seq ?_
      refine V.region ?_
      refine V.run T_ok 1 rfl ?_
      refine V.mkStruct T_ok zero58 rfl rfl rfl rfl rfl ?_
      refine V.box rfl rfl rfl rfl ?_
      rintro k68 w70 s72 s73 G71 Fk69
      have z74 := V.Fr.size G71
      try replace F_splits := F_splits.gr G71
      try replace Fk5 := Fk5.gr G71
      try replace F18 := F18.gr G71
      try replace F26 := F26.gr G71
      try replace Fk33 := Fk33.gr G71
      try replace F34 := F34.gr G71
      try replace F43 := F43.gr G71
      replace HG := HG.grow G71
      clear G71
      try simp only [V.cellsL, V.spliceL] at Fk69
      refine V.run T_ok 2 rfl ?_
      refine V.nil ?_
      refine V.tN ?_
      refine V.ret ?_
      refine V.done rfl ?_
      exact absurd (okB_of (by omega) (show (List.range splits.length).all (okAt splits) = true by rwa [show i = splits.length by omega] at hall)) (by simp [hok])


/-- the first n ranges -/
def spV (bs : List ByteArray) (n : Nat) : List (ByteArray × ByteArray) := (List.range n).map fun j => (bs.getD j (S []), bs.getD (j + 1) (S []))
theorem spV_len {bs : List ByteArray} {n : Nat} : (spV bs n).length = n := by simp [spV]
theorem spV_succ {bs : List ByteArray} {n : Nat} : spV bs (n + 1) = spV bs n ++ [(bs.getD n (S []), bs.getD (n + 1) (S []))] := by simp [spV, List.range_succ]
theorem bnds_at {sp : List ByteArray} {i : Nat} {x : ByteArray} (hi : i < sp.length) (hx : sp[i] = x) : (bnds sp).getD (i + 1) (S []) = x := by
  refine getD_at (by rw [bnds_len]; omega) ?_
  simp only [bnds, List.getElem_cons_succ]
  rw [List.getElem_append_left hi]; exact hx
theorem bnds_end {sp : List ByteArray} {i : Nat} (hi : i = sp.length) : (bnds sp).getD (i + 1) (S []) = S [123] := by
  subst hi
  refine getD_at (by rw [bnds_len]; omega) ?_
  simp only [bnds, List.getElem_cons_succ]
  rw [List.getElem_append_right (Nat.le_refl _)]; simp
theorem okB_at' {sp : List ByteArray} (h : okB sp = true) {j : Nat} {x : ByteArray} (hj : j < sp.length) (hx : sp[j] = x) : isKey x = true ∧ (bnds sp).getD j (S []) < x := by
  have hb : j < (bnds sp).length := by rw [bnds_len]; omega
  have := okB_at h hj hx hb rfl
  rwa [← getD_at hb rfl] at this
theorem okAt_of' {sp : List ByteArray} {j : Nat} {x : ByteArray} (hj : j < sp.length) (hx : sp[j] = x) (h1 : isKey x = true) (h2 : (bnds sp).getD j (S []) < x) : okAt sp j = true := by
  have hb : j < (bnds sp).length := by rw [bnds_len]; omega
  exact okAt_of hj hx hb rfl h1 (by rwa [getD_at hb rfl] at h2)
theorem spV_ok {sp : List ByteArray} {n : Nat} (h : okB sp = true) (hn : n ≤ 10) : (spV (bnds sp) n).length ≤ 1000000 ∧ ∀ b ∈ spV (bnds sp) n, b.1.size ≤ 140737488355327 ∧ b.2.size ≤ 140737488355327 := by
  have hb := (bnds_ok h).2.2
  have hg : ∀ j, ((bnds sp).getD j (S [])).size ≤ 140737488355327 := fun j => by
    rw [List.getD_eq_getElem?_getD]
    cases hj : (bnds sp)[j]? with
    | none => exact Nat.zero_le _
    | some b => exact hb b (List.mem_of_getElem? hj)
  refine ⟨by rw [spV_len]; omega, fun b hm => ?_⟩
  simp only [spV, List.mem_map] at hm
  obtain ⟨j, _, rfl⟩ := hm
  exact ⟨hg _, hg _⟩

set_option maxHeartbeats 4000000 in
set_option maxRecDepth 10000 in
theorem rnew_ok {w : World}  {D_splits : Nat → Prop} {c_splits : Nat} {a_splits : Option Addr} {splits : List ByteArray} (F_splits : Sl V.Cod.str w D_splits a_splits c_splits splits) (hD_splits : ∀ k, D_splits k → k < w.heap.size) (hok : okB splits = true) (hs : ∀ s ∈ splits, s.size ≤ 9223372036854775807) :
    Meets Try.prog 11 [.slice a_splits splits.length c_splits] w fun r w' => ∃ (rk7 : Nat), r = .tuple #[.pointer (some ⟨rk7, 0, none⟩), .int .i64 0] ∧ (w.heap.size ≤ rk7 ∧ rk7 < w'.heap.size) ∧ RDir w' rk7 (fun j => w.heap.size ≤ j ∧ j < w'.heap.size) (spV (bnds splits) (splits.length + 1)) ∧ Gr w w' := by
  have hl4 := okB_len hok
  have hbl := bnds_len (sp := splits)
  have HG := V.Fr.refl [] w
  refine V.enter (n := 65) Try.func11 rfl rfl (by decide) rfl ?_
  refine V.seq ?_
  refine V.region ?_
  refine V.run T_ok 2 rfl ?_
  refine V.nil ?_
  refine V.tN ?_
  refine V.seq ?_
  refine V.seq ?_
  refine V.region ?_
  refine V.run T_ok 3 rfl ?_
  refine V.nil ?_
  refine V.tN ?_
  refine V.condN rfl (by (exact decide_eq_false (by omega))) ?_
  refine V.skip ?_
  refine V.tN ?_
  refine V.seq ?_
  refine V.region ?_
  refine V.mkStruct T_ok zero38 rfl rfl rfl rfl rfl ?_
  refine V.box rfl rfl rfl rfl ?_
  rintro k1 w3 s5 s6 G4 Fk2
  have z7 := V.Fr.size G4
  try replace F_splits := F_splits.gr G4
  replace HG := HG.grow G4
  clear G4
  try simp only [V.cellsL, V.spliceL] at Fk2
  refine V.run T_ok 1 rfl ?_
  refine V.nil ?_
  refine V.tN ?_
  refine V.seq ?_
  refine V.region ?_
  refine V.run T_ok 1 rfl ?_
  refine V.nil ?_
  refine V.tN ?_
  refine V.seq ?_
  refine V.seq ?_
  refine V.region ?_
  refine V.run T_ok 1 rfl ?_
  refine V.nil ?_
  refine V.tN ?_
  refine V.block ?_
  refine V.loopM (fun m e v13 => Fr [] w v13 ∧ w3.heap.size ≤ v13.heap.size ∧ Sl V.Cod.str v13 D_splits a_splits c_splits splits ∧ ∃ (i : Nat) (a10 : Option Addr) (c11 : Nat), m = splits.length - i ∧ i ≤ splits.length ∧ splits.length < 4 ∧ Cells v13 k1 [.slice a10 (spV (bnds splits) i).length c11] 38 ∧ V.Row (V.Cod.pair V.Cod.str V.Cod.str) 24 v13 V.None' w3.heap.size v13.heap.size a10 c11 (spV (bnds splits) i) ∧ e 0 = .slice a_splits splits.length c_splits ∧ e 4 = .pointer (some ⟨k1, 0, none⟩) ∧ e 5 = .string ((bnds splits).getD i (S [])) ∧ e 6 = .int .i64 (i : Int)) ?_ ?_
  ·
    exact ⟨_, HG, (by omega), F_splits, (0), _, _, rfl, (by omega), (by omega), (by first | exact Fk2 | exact Fk2.mono (fun k h => ⟨by have := h.1; omega, by have := h.2; omega⟩) | exact Fk2.mono (fun k h => by omega) | exact Fk2.mono (fun k h => h.1) | exact Fk2.mono (fun k h => hnew k (by have := h.1; omega)) | exact Fk2.mono (fun k h => ⟨h.1, by have := h.2; omega⟩) | exact Fk2.mono (fun k h => ⟨hnew k (by have := h.1; omega), by have := h.2; omega⟩)), V.Row.nil, rfl, rfl, rfl, rfl⟩
  try clear Fk2
  clear HG F_splits
  rintro _ e v13 ⟨HG, z14, F_splits, i, a10, c11, rfl, hi, hl4, F8, F9, he0_0, he0_4, he0_5, he0_6⟩
  have hsl := spV_len (bs := bnds splits) (n := i)
  refine V.knownC (t := 0) he0_0 ?_
  refine V.knownC (t := 4) he0_4 ?_
  refine V.knownC (t := 5) he0_5 ?_
  refine V.knownC (t := 6) he0_6 ?_
  refine V.seq ?_
  refine V.seq ?_
  refine V.region ?_
  refine V.run T_ok 4 rfl ?_
  refine V.nil ?_
  refine V.tN ?_
  refine V.condT rfl (fun h6 => ?_) (fun h6 => ?_)
  ·
    try simp only [decide_eq_true_eq, decide_eq_false_iff_not, Bool.or_eq_true, Bool.and_eq_true, Bool.or_eq_false_iff, Bool.and_eq_false_iff, Bool.not_eq_true', Bool.not_eq_false', Int.not_lt, Int.not_le, Decidable.not_not, V.u8eq, V.S_inj, V.S_lit, V.S_lit2, V.bl] at h6
    try simp only [V.mk0, V.mk1, V.mk2, V.mk3] at h6
    refine V.skip ?_
    refine V.tN ?_
    refine V.seq ?_
    refine V.block ?_
    refine V.seq ?_
    refine V.region ?_
    refine V.run T_ok 2 rfl ?_
    refine V.elem T_ok F_splits rfl rfl sz9 rfl rfl rfl rfl (by first | omega | (simp only [List.length_take, List.length_drop, List.length_append, List.length_cons, List.length_nil, List.length_replicate, List.length_set, V.length_data, V.S_size]; omega)) (by first | omega | (simp only [List.length_take, List.length_drop, List.length_append, List.length_cons, List.length_nil, List.length_replicate, List.length_set, V.length_data, V.S_size]; omega)) ?_
    rintro b15 o16 cs17 hx18 hb19 hR22 hA20
    obtain ⟨x21, hx21⟩ : ∃ z', splits[((i : Int)).toNat] = z' := ⟨_, rfl⟩
    rw [hx21] at hR22
    obtain rfl := hR22
    try simp only [Int.toNat_natCast] at hx21 hx18
    refine V.loadA T_ok (o0 := o16) (off := 0) hA20 rfl rfl rfl rfl rfl ?_
    have hms := hs x21 (by rw [← hx21]; exact List.getElem_mem _)
    have hka := okB_key hok (by omega) hx21
    refine V.call (rkey_spec (s := x21) (by first | omega | decide | (simp only [V.S_size, List.length_cons, List.length_nil]; omega))) rfl rfl rfl ?_
    rintro _ v13_ ⟨rfl, rfl⟩
    refine V.run T_ok 1 rfl ?_
    refine V.nil ?_
    refine V.tN ?_
    refine V.seq ?_
    refine V.seq ?_
    refine V.region ?_
    refine V.run T_ok 3 rfl ?_
    refine V.splitF (j := 2) (t := 26) rfl rfl (by (simp [hka])) ?_
    refine V.run T_ok 2 rfl ?_
    refine V.yes rfl rfl rfl ?_
    refine V.elem T_ok F_splits rfl rfl sz9 rfl rfl rfl rfl (by first | omega | (simp only [List.length_take, List.length_drop, List.length_append, List.length_cons, List.length_nil, List.length_replicate, List.length_set, V.length_data, V.S_size]; omega)) (by first | omega | (simp only [List.length_take, List.length_drop, List.length_append, List.length_cons, List.length_nil, List.length_replicate, List.length_set, V.length_data, V.S_size]; omega)) ?_
    rintro b24 o25 cs26 hx27 hb28 hR31 hA29
    obtain ⟨x30, hx30⟩ : ∃ z', splits[((i : Int)).toNat] = z' := ⟨_, rfl⟩
    rw [hx30] at hR31
    obtain rfl := hR31
    try simp only [Int.toNat_natCast] at hx30 hx27
    obtain rfl : x21 = x30 := hx21.symm.trans hx30
    refine V.yes rfl rfl rfl ?_
    refine V.loadA T_ok (o0 := o25) (off := 0) hA29 rfl rfl rfl rfl rfl ?_
    refine V.run T_ok 3 rfl ?_
    refine V.nil ?_
    refine V.tN ?_
    refine V.condN rfl (by (have hkb := okB_at' hok (by omega) (by assumption); (try simp only [V.bl]); grind)) ?_
    refine V.skip ?_
    refine V.tN ?_
    refine V.seq ?_
    refine V.drawMT 15 (fun w_ => V.Bl w3.heap.size v13 w_) (fun i => Nat.beq i 11 || Nat.beq i 12) (fun _ g => V.Bl.gr g (by omega)) mixed (by kernel_rfl) (by kernel_rfl) ?_
    refine V.mrun T_ok 4 rfl rfl ?_
    refine V.mloadO T_ok (fun w' g => V.Cells.bl F8 g (by omega)) rfl rfl rfl rfl rfl rfl ?_
    refine V.mrun T_ok 3 rfl rfl ?_
    refine V.melem T_ok F_splits rfl rfl sz9 rfl rfl rfl rfl (by first | omega | (simp only [List.length_take, List.length_drop, List.length_append, List.length_cons, List.length_nil, List.length_replicate, List.length_set, V.length_data, V.S_size]; omega)) (by first | omega | (simp only [List.length_take, List.length_drop, List.length_append, List.length_cons, List.length_nil, List.length_replicate, List.length_set, V.length_data, V.S_size]; omega)) ?_
    rintro b32 o33 cs34 hx35 hb36 hR39 hA37
    obtain ⟨x38, hx38⟩ : ∃ z', splits[((i : Int)).toNat] = z' := ⟨_, rfl⟩
    rw [hx38] at hR39
    obtain rfl := hR39
    try simp only [Int.toNat_natCast] at hx38 hx35
    obtain rfl : x21 = x38 := hx21.symm.trans hx38
    refine V.mloadA T_ok (o0 := o33) (off := 0) (fun w' g => V.At.bl hA37 g (by first | omega | (have := hD_splits b32 hb36; omega))) rfl rfl rfl rfl rfl rfl ?_
    refine V.mmkStruct T_ok zero24 rfl rfl rfl rfl rfl rfl ?_
    refine V.mop (fun w1_ v_ w2_ => ∃ k_, v_ = .slice (some ⟨k_, 0, none⟩) 1 1 ∧ w1_.heap.size = k_ ∧ w2_.heap.size = k_ + 1 ∧ V.Gr w1_ w2_ ∧ V.Row (V.Cod.pair V.Cod.str V.Cod.str) 24 w2_ V.None' k_ (k_ + 1) (some ⟨k_, 0, none⟩) ([((bnds splits).getD i (S []), x21)] : List (ByteArray × ByteArray)).length ([((bnds splits).getD i (S []), x21)] : List (ByteArray × ByteArray))) rfl rfl rfl rfl (fun w' g h => ?_) ?_
    ·
      refine V.mkSlice T_ok zero24 rfl rfl sz24 rfl rfl rfl rfl rfl rfl ?_
      rintro k w2 s1 s2 G Fk
      refine V.nil ?_
      exact ⟨rfl, V.Bl.tr g (V.Bl.gr G (by have := g.size; omega)), k, rfl, s1, s2, G, V.rowOfC (xs := ([((bnds splits).getD i (S []), x21)] : List (ByteArray × ByteArray))) Fk (C := (V.Cod.pair V.Cod.str V.Cod.str)) (V.reps_cons (x := ((bnds splits).getD i (S []), x21)) ⟨_, _, rfl, rfl, rfl⟩ rfl rfl) rfl⟩
    rintro _ w1 w2 _ _ ⟨k41, rfl, -, -, -, -⟩
    refine V.mop (fun w1_ v_ w2_ => ∃ a_ c_, v_ = .slice a_ ((spV (bnds splits) i) ++ ([((bnds splits).getD i (S []), x21)] : List (ByteArray × ByteArray))).length c_ ∧ V.Bl w3.heap.size w1_ w2_ ∧ w2_.heap.size ≤ w1_.heap.size + 1 ∧ V.Row (V.Cod.pair V.Cod.str V.Cod.str) 24 w2_ V.None' w3.heap.size w2_.heap.size a_ c_ ((spV (bnds splits) i) ++ ([((bnds splits).getD i (S []), x21)] : List (ByteArray × ByteArray)))) rfl rfl rfl rfl (fun w' g h => ?_) ?_
    ·
      obtain ⟨w1, c1, g0, k', hk, s1, s2, G, FR⟩ := h
      cases hk
      have z0 := V.Fr.size g0
      have z1 := V.Fr.size G
      refine V.appendR ((F9.gr g0).gr G) (V.From.flat V.flat_span (D' := V.None') (FR.sl.from Try.underlying36)) elT36_36 rfl rfl rfl rfl rfl (by first | omega | (simp only [List.length_take, List.length_drop, List.length_append, List.length_cons, List.length_nil, List.length_replicate, List.length_set, V.length_data, V.S_size]; omega)) (by unfold maxLen; first | omega | (simp only [List.length_take, List.length_drop, List.length_append, List.length_cons, List.length_nil, List.length_replicate, List.length_set, V.length_data, V.S_size]; omega)) (by omega) (by omega) (fun _ h => h.elim) (fun _ h => h.elim) ?_
      rintro a c w2 Gb z F
      refine V.nil ?_
      exact ⟨rfl, V.Bl.tr g Gb, a, c, rfl, Gb, z, F⟩
    rintro _ w1 w2 _ _ ⟨a42, c43, rfl, -, -, -⟩
    refine V.mrun T_ok 2 rfl rfl ?_
    refine V.mnil ?_
    rintro w48 g45 h44
    obtain ⟨w47, -, ⟨w46, -, g0, k', hk, s1, s2, G1, -⟩, a', c', he, G50, z51, F49⟩ := h44
    cases hk
    cases he
    have z52 := V.Fr.size g0
    try replace F_splits := F_splits.gr g0
    try replace F8 := F8.gr g0
    try replace F9 := F9.gr g0
    replace HG := HG.grow g0
    clear g0
    have z53 := V.Fr.size G1
    try replace F_splits := F_splits.gr G1
    try replace F8 := F8.gr G1
    try replace F9 := F9.gr G1
    replace HG := HG.grow G1
    clear G1
    clear F9
    have z54 := Go.RowKit.Below.size G50
    first | replace F_splits := V.Sl.bl F_splits G50 (by first | exact (fun _ h => by have := h.2; omega) | (intro k h; have := hD_splits k h; omega)) | clear F_splits | skip
    first | replace F8 := V.Cells.bl F8 G50 (by omega) | clear F8 | skip
    replace HG := HG.bl (Go.RowKit.Below.mono G50 (by omega))
    clear G50
    refine V.storeO F8 rfl rfl rfl rfl sz36 rfl rfl rfl rfl ?_
    rintro w55 G56 z58 Fs57
    clear F8
    have z59 := V.Fr.size G56
    first | replace F_splits := F_splits.mv1 G56 (by first | exact (fun h => by have := hD_splits _ h; omega) | omega) | clear F_splits | skip
    first | replace F49 := F49.mv1 G56 (by first | exact ⟨fun h => h, fun h => by have := h.1; have := h.2; omega⟩ | omega) | clear F49 | skip
    replace HG := HG.new1 G56 (by first | (refine Or.inr ?_; omega) | (refine Or.inl ?_; simp; done))
    clear G56
    have F8 := Fs57; clear Fs57
    simp only [V.spliceL, V.cellsL] at F8
    refine V.nil ?_
    refine V.tN ?_
    refine V.region ?_
    refine V.run T_ok 2 rfl ?_
    refine V.elem T_ok F_splits rfl rfl sz9 rfl rfl rfl rfl (by first | omega | (simp only [List.length_take, List.length_drop, List.length_append, List.length_cons, List.length_nil, List.length_replicate, List.length_set, V.length_data, V.S_size]; omega)) (by first | omega | (simp only [List.length_take, List.length_drop, List.length_append, List.length_cons, List.length_nil, List.length_replicate, List.length_set, V.length_data, V.S_size]; omega)) ?_
    rintro b60 o61 cs62 hx63 hb64 hR67 hA65
    obtain ⟨x66, hx66⟩ : ∃ z', splits[((i : Int)).toNat] = z' := ⟨_, rfl⟩
    rw [hx66] at hR67
    obtain rfl := hR67
    try simp only [Int.toNat_natCast] at hx66 hx63
    obtain rfl : x21 = x66 := hx21.symm.trans hx66
    refine V.loadA T_ok (o0 := o61) (off := 0) hA65 rfl rfl rfl rfl rfl ?_
    refine V.run T_ok 1 rfl ?_
    refine V.nil ?_
    refine V.bN ?_
    refine V.tN ?_
    refine V.region ?_
    refine V.run T_ok 1 rfl ?_
    refine V.addN rfl rfl rfl rfl rfl (by first | omega | (simp only [List.length_take, List.length_drop, List.length_append, List.length_cons, List.length_nil, List.length_replicate, List.length_set, V.length_data, V.S_size]; omega)) (by first | omega | (simp only [List.length_take, List.length_drop, List.length_append, List.length_cons, List.length_nil, List.length_replicate, List.length_set, V.length_data, V.S_size]; omega)) ?_
    refine V.run T_ok 1 rfl ?_
    refine V.nil ?_
    refine V.tN ?_
    have hr68 : (spV (bnds splits) i) ++ ([((bnds splits).getD i (S []), x21)] : List (ByteArray × ByteArray)) = spV (bnds splits) (i + 1) := (by rw [spV_succ, bnds_at (by omega) hx21])
    rw [hr68] at F49 F8
    clear hr68
    
    exact ⟨_, (by omega), HG, (by omega), F_splits, (i + 1), _, _, rfl, (by omega), (by omega), (by first | exact F8 | exact F8.mono (fun k h => ⟨by have := h.1; omega, by have := h.2; omega⟩) | exact F8.mono (fun k h => by omega) | exact F8.mono (fun k h => h.1) | exact F8.mono (fun k h => hnew k (by have := h.1; omega)) | exact F8.mono (fun k h => ⟨h.1, by have := h.2; omega⟩) | exact F8.mono (fun k h => ⟨hnew k (by have := h.1; omega), by have := h.2; omega⟩)), (by first | exact F49 | exact F49.mono (fun _ h => h) (by omega) (by omega)), rfl, rfl, (congrArg Value.string (bnds_at (by omega) (by assumption)).symm), rfl⟩
  ·
    try simp only [decide_eq_true_eq, decide_eq_false_iff_not, Bool.or_eq_true, Bool.and_eq_true, Bool.or_eq_false_iff, Bool.and_eq_false_iff, Bool.not_eq_true', Bool.not_eq_false', Int.not_lt, Int.not_le, Decidable.not_not, V.u8eq, V.S_inj, V.S_lit, V.S_lit2, V.bl] at h6
    try simp only [V.mk0, V.mk1, V.mk2, V.mk3] at h6
    refine V.exit ?_
    refine V.tX ?_
    refine V.tX ?_
    refine V.bE ?_
    refine V.tN ?_
    refine V.seq ?_
    refine V.region ?_
    refine V.run T_ok 4 rfl ?_
    refine V.loadO T_ok F8 rfl rfl rfl rfl rfl ?_
    refine V.run T_ok 1 rfl ?_
    refine V.mkStruct T_ok zero24 rfl rfl rfl rfl rfl ?_
    refine V.mkSlice T_ok zero24 rfl rfl sz24 rfl rfl rfl rfl rfl rfl ?_
    rintro k69 w72 s74 s75 G73 Fk70
    have z76 := V.Fr.size G73
    try replace F_splits := F_splits.gr G73
    try replace F8 := F8.gr G73
    try replace F9 := F9.gr G73
    replace HG := HG.grow G73
    clear G73
    have F71 := V.rowOfC (xs := ([((bnds splits).getD i (S []), (V.S [123]))] : List (ByteArray × ByteArray))) Fk70 (C := (V.Cod.pair V.Cod.str V.Cod.str)) (V.reps_cons (x := ((bnds splits).getD i (S []), (V.S [123]))) ⟨_, _, rfl, rfl, rfl⟩ rfl rfl) rfl
    clear Fk70
    refine V.appendR (F9) (V.From.flat V.flat_span (D' := V.None') (F71.sl.from Try.underlying36)) elT36_36 rfl rfl rfl rfl rfl (by first | omega | (simp only [List.length_take, List.length_drop, List.length_append, List.length_cons, List.length_nil, List.length_replicate, List.length_set, V.length_data, V.S_size]; omega)) (by unfold maxLen; first | omega | (simp only [List.length_take, List.length_drop, List.length_append, List.length_cons, List.length_nil, List.length_replicate, List.length_set, V.length_data, V.S_size]; omega)) (by omega) (by omega) (fun _ h => h.elim) (fun _ h => h.elim) ?_
    rintro a77 c78 w80 G81 s82 F79
    clear F9
    clear F71
    have z83 := Go.RowKit.Below.size G81
    first | replace F_splits := V.Sl.bl F_splits G81 (by first | exact (fun _ h => by have := h.2; omega) | (intro k h; have := hD_splits k h; omega)) | clear F_splits | skip
    first | replace F8 := V.Cells.bl F8 G81 (by omega) | clear F8 | skip
    replace HG := HG.bl (Go.RowKit.Below.mono G81 (by omega))
    clear G81
    refine V.run T_ok 2 rfl ?_
    refine V.storeO F8 rfl rfl rfl rfl sz36 rfl rfl rfl rfl ?_
    rintro w84 G85 z87 Fs86
    clear F8
    have z88 := V.Fr.size G85
    first | replace F_splits := F_splits.mv1 G85 (by first | exact (fun h => by have := hD_splits _ h; omega) | omega) | clear F_splits | skip
    first | replace F79 := F79.mv1 G85 (by first | exact ⟨fun h => h, fun h => by have := h.1; have := h.2; omega⟩ | omega) | clear F79 | skip
    replace HG := HG.new1 G85 (by first | (refine Or.inr ?_; omega) | (refine Or.inl ?_; simp; done))
    clear G85
    have F8 := Fs86; clear Fs86
    simp only [V.spliceL, V.cellsL] at F8
    refine V.nil ?_
    refine V.tN ?_
    refine V.seq ?_
    have hr89 : (spV (bnds splits) i) ++ ([((bnds splits).getD i (S []), (V.S [123]))] : List (ByteArray × ByteArray)) = spV (bnds splits) (splits.length + 1) := (by rw [spV_succ, bnds_end rfl, show i = splits.length by omega])
    rw [hr89] at F79 F8
    clear hr89
    refine V.region ?_
    refine V.run T_ok 3 rfl ?_
    refine V.nil ?_
    refine V.tN ?_
    refine V.ret ?_
    refine V.done rfl ?_
    exact ⟨k1, (by first | rfl | simp only [List.length_set]), ⟨by omega, by omega⟩, ⟨⟨_, _, F8, F79.sl.mono (fun k h => ⟨by have := h.1; omega, by have := h.2; omega⟩)⟩, spV_ok hok (by omega)⟩, HG⟩

set_option maxHeartbeats 4000000 in
set_option maxRecDepth 10000 in
theorem rnew_no {w : World}  {D_splits : Nat → Prop} {c_splits : Nat} {a_splits : Option Addr} {splits : List ByteArray} (F_splits : Sl V.Cod.str w D_splits a_splits c_splits splits) (hD_splits : ∀ k, D_splits k → k < w.heap.size) (hok : okB splits = false) (hs : ∀ s ∈ splits, s.size ≤ 9223372036854775807) :
    Meets Try.prog 11 [.slice a_splits splits.length c_splits] w fun r w' => r = .tuple #[.pointer none, .int .i64 (eNew splits)] ∧ Gr w w' := by
  have hbl := bnds_len (sp := splits)
  have HG := V.Fr.refl [] w
  refine V.enter (n := 65) Try.func11 rfl rfl (by decide) rfl ?_
  refine V.seq ?_
  refine V.region ?_
  refine V.run T_ok 2 rfl ?_
  refine V.nil ?_
  refine V.tN ?_
  refine V.seq ?_
  refine V.seq ?_
  refine V.region ?_
  refine V.run T_ok 3 rfl ?_
  refine V.nil ?_
  refine V.tN ?_
  refine V.condT rfl (fun h1 => ?_) (fun h1 => ?_)
  ·
    try simp only [decide_eq_true_eq, decide_eq_false_iff_not, Bool.or_eq_true, Bool.and_eq_true, Bool.or_eq_false_iff, Bool.and_eq_false_iff, Bool.not_eq_true', Bool.not_eq_false', Int.not_lt, Int.not_le, Decidable.not_not, V.u8eq, V.S_inj, V.S_lit, V.S_lit2, V.bl] at h1
    try simp only [V.mk0, V.mk1, V.mk2, V.mk3] at h1
    refine V.seq ?_
    refine V.region ?_
    refine V.run T_ok 2 rfl ?_
    refine V.nil ?_
    refine V.tN ?_
    refine V.ret ?_
    refine V.tR ?_
    refine V.done rfl ?_
    rw [show eNew splits = 142 by unfold eNew; rw [if_pos (by omega)]]
    exact ⟨(by first | rfl | simp only [List.length_set]), HG⟩
  ·
    try simp only [decide_eq_true_eq, decide_eq_false_iff_not, Bool.or_eq_true, Bool.and_eq_true, Bool.or_eq_false_iff, Bool.and_eq_false_iff, Bool.not_eq_true', Bool.not_eq_false', Int.not_lt, Int.not_le, Decidable.not_not, V.u8eq, V.S_inj, V.S_lit, V.S_lit2, V.bl] at h1
    try simp only [V.mk0, V.mk1, V.mk2, V.mk3] at h1
    refine V.skip ?_
    refine V.tN ?_
    refine V.seq ?_
    refine V.region ?_
    refine V.mkStruct T_ok zero38 rfl rfl rfl rfl rfl ?_
    refine V.box rfl rfl rfl rfl ?_
    rintro k1 w3 s5 s6 G4 Fk2
    have z7 := V.Fr.size G4
    try replace F_splits := F_splits.gr G4
    replace HG := HG.grow G4
    clear G4
    try simp only [V.cellsL, V.spliceL] at Fk2
    refine V.run T_ok 1 rfl ?_
    refine V.nil ?_
    refine V.tN ?_
    refine V.seq ?_
    refine V.region ?_
    refine V.run T_ok 1 rfl ?_
    refine V.nil ?_
    refine V.tN ?_
    refine V.seq ?_
    refine V.seq ?_
    refine V.region ?_
    refine V.run T_ok 1 rfl ?_
    refine V.nil ?_
    refine V.tN ?_
    refine V.block ?_
    refine V.loopM (fun m e v13 => Fr [] w v13 ∧ w3.heap.size ≤ v13.heap.size ∧ Sl V.Cod.str v13 D_splits a_splits c_splits splits ∧ ∃ (i : Nat) (a10 : Option Addr) (c11 : Nat), m = splits.length - i ∧ i ≤ splits.length ∧ splits.length < 4 ∧ (List.range i).all (okAt splits) = true ∧ Cells v13 k1 [.slice a10 (spV (bnds splits) i).length c11] 38 ∧ V.Row (V.Cod.pair V.Cod.str V.Cod.str) 24 v13 V.None' w3.heap.size v13.heap.size a10 c11 (spV (bnds splits) i) ∧ e 0 = .slice a_splits splits.length c_splits ∧ e 4 = .pointer (some ⟨k1, 0, none⟩) ∧ e 5 = .string ((bnds splits).getD i (S [])) ∧ e 6 = .int .i64 (i : Int)) ?_ ?_
    ·
      exact ⟨_, HG, (by omega), F_splits, (0), _, _, rfl, (by omega), (by omega), (rfl), (by first | exact Fk2 | exact Fk2.mono (fun k h => ⟨by have := h.1; omega, by have := h.2; omega⟩) | exact Fk2.mono (fun k h => by omega) | exact Fk2.mono (fun k h => h.1) | exact Fk2.mono (fun k h => hnew k (by have := h.1; omega)) | exact Fk2.mono (fun k h => ⟨h.1, by have := h.2; omega⟩) | exact Fk2.mono (fun k h => ⟨hnew k (by have := h.1; omega), by have := h.2; omega⟩)), V.Row.nil, rfl, rfl, rfl, rfl⟩
    try clear Fk2
    clear HG F_splits
    rintro _ e v13 ⟨HG, z14, F_splits, i, a10, c11, rfl, hi, hl4, hall, F8, F9, he0_0, he0_4, he0_5, he0_6⟩
    have hsl := spV_len (bs := bnds splits) (n := i)
    refine V.knownC (t := 0) he0_0 ?_
    refine V.knownC (t := 4) he0_4 ?_
    refine V.knownC (t := 5) he0_5 ?_
    refine V.knownC (t := 6) he0_6 ?_
    refine V.seq ?_
    refine V.seq ?_
    refine V.region ?_
    refine V.run T_ok 4 rfl ?_
    refine V.nil ?_
    refine V.tN ?_
    refine V.condT rfl (fun h6 => ?_) (fun h6 => ?_)
    ·
      try simp only [decide_eq_true_eq, decide_eq_false_iff_not, Bool.or_eq_true, Bool.and_eq_true, Bool.or_eq_false_iff, Bool.and_eq_false_iff, Bool.not_eq_true', Bool.not_eq_false', Int.not_lt, Int.not_le, Decidable.not_not, V.u8eq, V.S_inj, V.S_lit, V.S_lit2, V.bl] at h6
      try simp only [V.mk0, V.mk1, V.mk2, V.mk3] at h6
      refine V.skip ?_
      refine V.tN ?_
      refine V.seq ?_
      refine V.block ?_
      refine V.seq ?_
      refine V.region ?_
      refine V.run T_ok 2 rfl ?_
      refine V.elem T_ok F_splits rfl rfl sz9 rfl rfl rfl rfl (by first | omega | (simp only [List.length_take, List.length_drop, List.length_append, List.length_cons, List.length_nil, List.length_replicate, List.length_set, V.length_data, V.S_size]; omega)) (by first | omega | (simp only [List.length_take, List.length_drop, List.length_append, List.length_cons, List.length_nil, List.length_replicate, List.length_set, V.length_data, V.S_size]; omega)) ?_
      rintro b15 o16 cs17 hx18 hb19 hR22 hA20
      obtain ⟨x21, hx21⟩ : ∃ z', splits[((i : Int)).toNat] = z' := ⟨_, rfl⟩
      rw [hx21] at hR22
      obtain rfl := hR22
      try simp only [Int.toNat_natCast] at hx21 hx18
      refine V.loadA T_ok (o0 := o16) (off := 0) hA20 rfl rfl rfl rfl rfl ?_
      have hms := hs x21 (by rw [← hx21]; exact List.getElem_mem _)
      refine V.call (rkey_spec (s := x21) (by first | omega | decide | (simp only [V.S_size, List.length_cons, List.length_nil]; omega))) rfl rfl rfl ?_
      rintro _ v13_ ⟨rfl, rfl⟩
      refine V.run T_ok 1 rfl ?_
      refine V.nil ?_
      refine V.tN ?_
      refine V.seq ?_
      refine V.seq ?_
      refine V.region ?_
      refine V.run T_ok 3 rfl ?_
      refine V.split (j := 2) (t := 26) rfl rfl (fun g9_2 => ?_) (fun g9_2 => ?_)
      ·
        try simp only [decide_eq_true_eq, decide_eq_false_iff_not, Bool.or_eq_true, Bool.and_eq_true, Bool.or_eq_false_iff, Bool.and_eq_false_iff, Bool.not_eq_true', Bool.not_eq_false', Int.not_lt, Int.not_le, Decidable.not_not, V.u8eq, V.S_inj, V.S_lit, V.S_lit2, V.bl] at g9_2
        try simp only [V.mk0, V.mk1, V.mk2, V.mk3] at g9_2
        refine V.run T_ok 7 rfl ?_
        refine V.nil ?_
        refine V.tN ?_
        refine V.condY rfl rfl ?_
        refine V.seq ?_
        refine V.region ?_
        refine V.run T_ok 2 rfl ?_
        refine V.nil ?_
        refine V.tN ?_
        refine V.ret ?_
        refine V.tR ?_
        refine V.bR ?_
        refine V.tR ?_
        refine V.tR ?_
        refine V.bR ?_
        refine V.tR ?_
        refine V.done rfl ?_
        rw [show eNew splits = 51 by unfold eNew; rw [if_neg (by omega)]]
        exact ⟨(by first | rfl | simp only [List.length_set]), HG⟩
      ·
        try simp only [decide_eq_true_eq, decide_eq_false_iff_not, Bool.or_eq_true, Bool.and_eq_true, Bool.or_eq_false_iff, Bool.and_eq_false_iff, Bool.not_eq_true', Bool.not_eq_false', Int.not_lt, Int.not_le, Decidable.not_not, V.u8eq, V.S_inj, V.S_lit, V.S_lit2, V.bl] at g9_2
        try simp only [V.mk0, V.mk1, V.mk2, V.mk3] at g9_2
        refine V.run T_ok 2 rfl ?_
        refine V.yes rfl rfl rfl ?_
        refine V.elem T_ok F_splits rfl rfl sz9 rfl rfl rfl rfl (by first | omega | (simp only [List.length_take, List.length_drop, List.length_append, List.length_cons, List.length_nil, List.length_replicate, List.length_set, V.length_data, V.S_size]; omega)) (by first | omega | (simp only [List.length_take, List.length_drop, List.length_append, List.length_cons, List.length_nil, List.length_replicate, List.length_set, V.length_data, V.S_size]; omega)) ?_
        rintro b24 o25 cs26 hx27 hb28 hR31 hA29
        obtain ⟨x30, hx30⟩ : ∃ z', splits[((i : Int)).toNat] = z' := ⟨_, rfl⟩
        rw [hx30] at hR31
        obtain rfl := hR31
        try simp only [Int.toNat_natCast] at hx30 hx27
        obtain rfl : x21 = x30 := hx21.symm.trans hx30
        refine V.yes rfl rfl rfl ?_
        refine V.loadA T_ok (o0 := o25) (off := 0) hA29 rfl rfl rfl rfl rfl ?_
        refine V.run T_ok 3 rfl ?_
        refine V.nil ?_
        refine V.tN ?_
        refine V.condT rfl (fun h9 => ?_) (fun h9 => ?_)
        ·
          try simp only [decide_eq_true_eq, decide_eq_false_iff_not, Bool.or_eq_true, Bool.and_eq_true, Bool.or_eq_false_iff, Bool.and_eq_false_iff, Bool.not_eq_true', Bool.not_eq_false', Int.not_lt, Int.not_le, Decidable.not_not, V.u8eq, V.S_inj, V.S_lit, V.S_lit2, V.bl] at h9
          try simp only [V.mk0, V.mk1, V.mk2, V.mk3] at h9
          refine V.seq ?_
          refine V.region ?_
          refine V.run T_ok 2 rfl ?_
          refine V.nil ?_
          refine V.tN ?_
          refine V.ret ?_
          refine V.tR ?_
          refine V.bR ?_
          refine V.tR ?_
          refine V.tR ?_
          refine V.bR ?_
          refine V.tR ?_
          refine V.done rfl ?_
          rw [show eNew splits = 51 by unfold eNew; rw [if_neg (by omega)]]
          exact ⟨(by first | rfl | simp only [List.length_set]), HG⟩
        ·
          try simp only [decide_eq_true_eq, decide_eq_false_iff_not, Bool.or_eq_true, Bool.and_eq_true, Bool.or_eq_false_iff, Bool.and_eq_false_iff, Bool.not_eq_true', Bool.not_eq_false', Int.not_lt, Int.not_le, Decidable.not_not, V.u8eq, V.S_inj, V.S_lit, V.S_lit2, V.bl] at h9
          try simp only [V.mk0, V.mk1, V.mk2, V.mk3] at h9
          refine V.skip ?_
          refine V.tN ?_
          refine V.seq ?_
          refine V.drawMT 15 (fun w_ => V.Bl w3.heap.size v13 w_) (fun i => Nat.beq i 11 || Nat.beq i 12) (fun _ g => V.Bl.gr g (by omega)) mixed (by kernel_rfl) (by kernel_rfl) ?_
          refine V.mrun T_ok 4 rfl rfl ?_
          refine V.mloadO T_ok (fun w' g => V.Cells.bl F8 g (by omega)) rfl rfl rfl rfl rfl rfl ?_
          refine V.mrun T_ok 3 rfl rfl ?_
          refine V.melem T_ok F_splits rfl rfl sz9 rfl rfl rfl rfl (by first | omega | (simp only [List.length_take, List.length_drop, List.length_append, List.length_cons, List.length_nil, List.length_replicate, List.length_set, V.length_data, V.S_size]; omega)) (by first | omega | (simp only [List.length_take, List.length_drop, List.length_append, List.length_cons, List.length_nil, List.length_replicate, List.length_set, V.length_data, V.S_size]; omega)) ?_
          rintro b32 o33 cs34 hx35 hb36 hR39 hA37
          obtain ⟨x38, hx38⟩ : ∃ z', splits[((i : Int)).toNat] = z' := ⟨_, rfl⟩
          rw [hx38] at hR39
          obtain rfl := hR39
          try simp only [Int.toNat_natCast] at hx38 hx35
          obtain rfl : x21 = x38 := hx21.symm.trans hx38
          refine V.mloadA T_ok (o0 := o33) (off := 0) (fun w' g => V.At.bl hA37 g (by first | omega | (have := hD_splits b32 hb36; omega))) rfl rfl rfl rfl rfl rfl ?_
          refine V.mmkStruct T_ok zero24 rfl rfl rfl rfl rfl rfl ?_
          refine V.mop (fun w1_ v_ w2_ => ∃ k_, v_ = .slice (some ⟨k_, 0, none⟩) 1 1 ∧ w1_.heap.size = k_ ∧ w2_.heap.size = k_ + 1 ∧ V.Gr w1_ w2_ ∧ V.Row (V.Cod.pair V.Cod.str V.Cod.str) 24 w2_ V.None' k_ (k_ + 1) (some ⟨k_, 0, none⟩) ([((bnds splits).getD i (S []), x21)] : List (ByteArray × ByteArray)).length ([((bnds splits).getD i (S []), x21)] : List (ByteArray × ByteArray))) rfl rfl rfl rfl (fun w' g h => ?_) ?_
          ·
            refine V.mkSlice T_ok zero24 rfl rfl sz24 rfl rfl rfl rfl rfl rfl ?_
            rintro k w2 s1 s2 G Fk
            refine V.nil ?_
            exact ⟨rfl, V.Bl.tr g (V.Bl.gr G (by have := g.size; omega)), k, rfl, s1, s2, G, V.rowOfC (xs := ([((bnds splits).getD i (S []), x21)] : List (ByteArray × ByteArray))) Fk (C := (V.Cod.pair V.Cod.str V.Cod.str)) (V.reps_cons (x := ((bnds splits).getD i (S []), x21)) ⟨_, _, rfl, rfl, rfl⟩ rfl rfl) rfl⟩
          rintro _ w1 w2 _ _ ⟨k41, rfl, -, -, -, -⟩
          refine V.mop (fun w1_ v_ w2_ => ∃ a_ c_, v_ = .slice a_ ((spV (bnds splits) i) ++ ([((bnds splits).getD i (S []), x21)] : List (ByteArray × ByteArray))).length c_ ∧ V.Bl w3.heap.size w1_ w2_ ∧ w2_.heap.size ≤ w1_.heap.size + 1 ∧ V.Row (V.Cod.pair V.Cod.str V.Cod.str) 24 w2_ V.None' w3.heap.size w2_.heap.size a_ c_ ((spV (bnds splits) i) ++ ([((bnds splits).getD i (S []), x21)] : List (ByteArray × ByteArray)))) rfl rfl rfl rfl (fun w' g h => ?_) ?_
          ·
            obtain ⟨w1, c1, g0, k', hk, s1, s2, G, FR⟩ := h
            cases hk
            have z0 := V.Fr.size g0
            have z1 := V.Fr.size G
            refine V.appendR ((F9.gr g0).gr G) (V.From.flat V.flat_span (D' := V.None') (FR.sl.from Try.underlying36)) elT36_36 rfl rfl rfl rfl rfl (by first | omega | (simp only [List.length_take, List.length_drop, List.length_append, List.length_cons, List.length_nil, List.length_replicate, List.length_set, V.length_data, V.S_size]; omega)) (by unfold maxLen; first | omega | (simp only [List.length_take, List.length_drop, List.length_append, List.length_cons, List.length_nil, List.length_replicate, List.length_set, V.length_data, V.S_size]; omega)) (by omega) (by omega) (fun _ h => h.elim) (fun _ h => h.elim) ?_
            rintro a c w2 Gb z F
            refine V.nil ?_
            exact ⟨rfl, V.Bl.tr g Gb, a, c, rfl, Gb, z, F⟩
          rintro _ w1 w2 _ _ ⟨a42, c43, rfl, -, -, -⟩
          refine V.mrun T_ok 2 rfl rfl ?_
          refine V.mnil ?_
          rintro w48 g45 h44
          obtain ⟨w47, -, ⟨w46, -, g0, k', hk, s1, s2, G1, -⟩, a', c', he, G50, z51, F49⟩ := h44
          cases hk
          cases he
          have z52 := V.Fr.size g0
          try replace F_splits := F_splits.gr g0
          try replace F8 := F8.gr g0
          try replace F9 := F9.gr g0
          replace HG := HG.grow g0
          clear g0
          have z53 := V.Fr.size G1
          try replace F_splits := F_splits.gr G1
          try replace F8 := F8.gr G1
          try replace F9 := F9.gr G1
          replace HG := HG.grow G1
          clear G1
          clear F9
          have z54 := Go.RowKit.Below.size G50
          first | replace F_splits := V.Sl.bl F_splits G50 (by first | exact (fun _ h => by have := h.2; omega) | (intro k h; have := hD_splits k h; omega)) | clear F_splits | skip
          first | replace F8 := V.Cells.bl F8 G50 (by omega) | clear F8 | skip
          replace HG := HG.bl (Go.RowKit.Below.mono G50 (by omega))
          clear G50
          refine V.storeO F8 rfl rfl rfl rfl sz36 rfl rfl rfl rfl ?_
          rintro w55 G56 z58 Fs57
          clear F8
          have z59 := V.Fr.size G56
          first | replace F_splits := F_splits.mv1 G56 (by first | exact (fun h => by have := hD_splits _ h; omega) | omega) | clear F_splits | skip
          first | replace F49 := F49.mv1 G56 (by first | exact ⟨fun h => h, fun h => by have := h.1; have := h.2; omega⟩ | omega) | clear F49 | skip
          replace HG := HG.new1 G56 (by first | (refine Or.inr ?_; omega) | (refine Or.inl ?_; simp; done))
          clear G56
          have F8 := Fs57; clear Fs57
          simp only [V.spliceL, V.cellsL] at F8
          refine V.nil ?_
          refine V.tN ?_
          refine V.region ?_
          refine V.run T_ok 2 rfl ?_
          refine V.elem T_ok F_splits rfl rfl sz9 rfl rfl rfl rfl (by first | omega | (simp only [List.length_take, List.length_drop, List.length_append, List.length_cons, List.length_nil, List.length_replicate, List.length_set, V.length_data, V.S_size]; omega)) (by first | omega | (simp only [List.length_take, List.length_drop, List.length_append, List.length_cons, List.length_nil, List.length_replicate, List.length_set, V.length_data, V.S_size]; omega)) ?_
          rintro b60 o61 cs62 hx63 hb64 hR67 hA65
          obtain ⟨x66, hx66⟩ : ∃ z', splits[((i : Int)).toNat] = z' := ⟨_, rfl⟩
          rw [hx66] at hR67
          obtain rfl := hR67
          try simp only [Int.toNat_natCast] at hx66 hx63
          obtain rfl : x21 = x66 := hx21.symm.trans hx66
          refine V.loadA T_ok (o0 := o61) (off := 0) hA65 rfl rfl rfl rfl rfl ?_
          refine V.run T_ok 1 rfl ?_
          refine V.nil ?_
          refine V.bN ?_
          refine V.tN ?_
          refine V.region ?_
          refine V.run T_ok 1 rfl ?_
          refine V.addN rfl rfl rfl rfl rfl (by first | omega | (simp only [List.length_take, List.length_drop, List.length_append, List.length_cons, List.length_nil, List.length_replicate, List.length_set, V.length_data, V.S_size]; omega)) (by first | omega | (simp only [List.length_take, List.length_drop, List.length_append, List.length_cons, List.length_nil, List.length_replicate, List.length_set, V.length_data, V.S_size]; omega)) ?_
          refine V.run T_ok 1 rfl ?_
          refine V.nil ?_
          refine V.tN ?_
          have hr68 : (spV (bnds splits) i) ++ ([((bnds splits).getD i (S []), x21)] : List (ByteArray × ByteArray)) = spV (bnds splits) (i + 1) := (by rw [spV_succ, bnds_at (by omega) hx21])
          rw [hr68] at F49 F8
          clear hr68
          have hoka := all_succ hall (okAt_of' (by omega) hx21 (by first | assumption | simpa using h9) (by grind))
          exact ⟨_, (by omega), HG, (by omega), F_splits, (i + 1), _, _, rfl, (by omega), (by omega), (hoka), (by first | exact F8 | exact F8.mono (fun k h => ⟨by have := h.1; omega, by have := h.2; omega⟩) | exact F8.mono (fun k h => by omega) | exact F8.mono (fun k h => h.1) | exact F8.mono (fun k h => hnew k (by have := h.1; omega)) | exact F8.mono (fun k h => ⟨h.1, by have := h.2; omega⟩) | exact F8.mono (fun k h => ⟨hnew k (by have := h.1; omega), by have := h.2; omega⟩)), (by first | exact F49 | exact F49.mono (fun _ h => h) (by omega) (by omega)), rfl, rfl, (congrArg Value.string (bnds_at (by omega) (by assumption)).symm), rfl⟩
    ·
      try simp only [decide_eq_true_eq, decide_eq_false_iff_not, Bool.or_eq_true, Bool.and_eq_true, Bool.or_eq_false_iff, Bool.and_eq_false_iff, Bool.not_eq_true', Bool.not_eq_false', Int.not_lt, Int.not_le, Decidable.not_not, V.u8eq, V.S_inj, V.S_lit, V.S_lit2, V.bl] at h6
      try simp only [V.mk0, V.mk1, V.mk2, V.mk3] at h6
      refine V.exit ?_
      refine V.tX ?_
      refine V.tX ?_
      refine V.bE ?_
      refine V.tN ?_
      refine V.seq ?_
      refine V.region ?_
      refine V.run T_ok 4 rfl ?_
      refine V.loadO T_ok F8 rfl rfl rfl rfl rfl ?_
      refine V.run T_ok 1 rfl ?_
      refine V.mkStruct T_ok zero24 rfl rfl rfl rfl rfl ?_
      refine V.mkSlice T_ok zero24 rfl rfl sz24 rfl rfl rfl rfl rfl rfl ?_
      rintro k69 w72 s74 s75 G73 Fk70
      have z76 := V.Fr.size G73
      try replace F_splits := F_splits.gr G73
      try replace F8 := F8.gr G73
      try replace F9 := F9.gr G73
      replace HG := HG.grow G73
      clear G73
      have F71 := V.rowOfC (xs := ([((bnds splits).getD i (S []), (V.S [123]))] : List (ByteArray × ByteArray))) Fk70 (C := (V.Cod.pair V.Cod.str V.Cod.str)) (V.reps_cons (x := ((bnds splits).getD i (S []), (V.S [123]))) ⟨_, _, rfl, rfl, rfl⟩ rfl rfl) rfl
      clear Fk70
      refine V.appendR (F9) (V.From.flat V.flat_span (D' := V.None') (F71.sl.from Try.underlying36)) elT36_36 rfl rfl rfl rfl rfl (by first | omega | (simp only [List.length_take, List.length_drop, List.length_append, List.length_cons, List.length_nil, List.length_replicate, List.length_set, V.length_data, V.S_size]; omega)) (by unfold maxLen; first | omega | (simp only [List.length_take, List.length_drop, List.length_append, List.length_cons, List.length_nil, List.length_replicate, List.length_set, V.length_data, V.S_size]; omega)) (by omega) (by omega) (fun _ h => h.elim) (fun _ h => h.elim) ?_
      rintro a77 c78 w80 G81 s82 F79
      clear F9
      clear F71
      have z83 := Go.RowKit.Below.size G81
      first | replace F_splits := V.Sl.bl F_splits G81 (by first | exact (fun _ h => by have := h.2; omega) | (intro k h; have := hD_splits k h; omega)) | clear F_splits | skip
      first | replace F8 := V.Cells.bl F8 G81 (by omega) | clear F8 | skip
      replace HG := HG.bl (Go.RowKit.Below.mono G81 (by omega))
      clear G81
      refine V.run T_ok 2 rfl ?_
      refine V.storeO F8 rfl rfl rfl rfl sz36 rfl rfl rfl rfl ?_
      rintro w84 G85 z87 Fs86
      clear F8
      have z88 := V.Fr.size G85
      first | replace F_splits := F_splits.mv1 G85 (by first | exact (fun h => by have := hD_splits _ h; omega) | omega) | clear F_splits | skip
      first | replace F79 := F79.mv1 G85 (by first | exact ⟨fun h => h, fun h => by have := h.1; have := h.2; omega⟩ | omega) | clear F79 | skip
      replace HG := HG.new1 G85 (by first | (refine Or.inr ?_; omega) | (refine Or.inl ?_; simp; done))
      clear G85
      have F8 := Fs86; clear Fs86
      simp only [V.spliceL, V.cellsL] at F8
      refine V.nil ?_
      refine V.tN ?_
      refine V.seq ?_
      refine V.region ?_
      refine V.run T_ok 3 rfl ?_
      refine V.nil ?_
      refine V.tN ?_
      refine V.ret ?_
      refine V.done rfl ?_
      exact absurd (okB_of (by omega) (show (List.range splits.length).all (okAt splits) = true by rwa [show i = splits.length by omega] at hall)) (by simp [hok])


def rfI (l : List (ByteArray × ByteArray)) (key : ByteArray) : Int := if l.any (fun s => hasB s.1 s.2 key) = true then (l.findIdx (fun s => hasB s.1 s.2 key) : Int) else 0
def rfB (l : List (ByteArray × ByteArray)) (key : ByteArray) : Bool := l.any (fun s => hasB s.1 s.2 key)
theorem rf_at {l : List (ByteArray × ByteArray)} {key : ByteArray} {i : Nat} {x : ByteArray × ByteArray} (h : ∀ j (hj : j < l.length), j < i → hasB l[j].1 l[j].2 key = false) (hi : i < l.length) (hx : l[i] = x) (hk : hasB x.1 x.2 key = true) : rfI l key = i ∧ rfB l key = true := by
  subst hx
  have ha : l.any (fun s => hasB s.1 s.2 key) = true := List.any_eq_true.2 ⟨l[i], List.getElem_mem hi, hk⟩
  refine ⟨?_, ha⟩
  unfold rfI
  rw [if_pos ha]
  congr 1
  exact (List.findIdx_eq hi).2 ⟨hk, fun j hj => h j (by omega) hj⟩
theorem rf_no {l : List (ByteArray × ByteArray)} {key : ByteArray} (h : ∀ j (hj : j < l.length), hasB l[j].1 l[j].2 key = false) : rfI l key = 0 ∧ rfB l key = false := by
  have ha : ¬ l.any (fun s => hasB s.1 s.2 key) = true := by
    intro h2
    obtain ⟨b, hb, hb2⟩ := List.any_eq_true.1 h2
    obtain ⟨j, hj, rfl⟩ := List.mem_iff_getElem.1 hb
    rw [h j hj] at hb2; cases hb2
  exact ⟨by unfold rfI; rw [if_neg ha], by unfold rfB; simpa using ha⟩
/-- the parts of the first n of these spans -/
def rptV (l : List (ByteArray × ByteArray)) (f t : ByteArray) (n : Nat) : List (Int × ByteArray × ByteArray) := (List.range n).filterMap fun (i : Nat) => if meetB f t (l.getD i (S [], S [])).1 (l.getD i (S [], S [])).2 = true then some ((i : Int), clipR f t (l.getD i (S [], S [])).1 (l.getD i (S [], S [])).2) else none
theorem getD_sp {l : List (ByteArray × ByteArray)} {i : Nat} {x : ByteArray × ByteArray} (hi : i < l.length) (hx : l[i] = x) : l.getD i (S [], S []) = x := by rw [List.getD_eq_getElem?_getD, List.getElem?_eq_getElem hi, hx]; rfl
theorem rptV_succ {l : List (ByteArray × ByteArray)} {f t : ByteArray} {n : Nat} {x : ByteArray × ByteArray} (hi : n < l.length) (hx : l[n] = x) : rptV l f t (n + 1) = rptV l f t n ++ (if meetB f t x.1 x.2 = true then [((n : Int), clipR f t x.1 x.2)] else []) := by
  unfold rptV
  rw [List.range_succ, List.filterMap_append]
  congr 1
  by_cases h : meetB f t x.1 x.2 = true <;> simp only [List.filterMap_cons, List.filterMap_nil, getD_sp hi hx, h, if_true, if_false, Bool.false_eq_true]
theorem rptV_len {l : List (ByteArray × ByteArray)} {f t : ByteArray} {n : Nat} : (rptV l f t n).length ≤ n := by
  unfold rptV; exact Nat.le_trans (List.length_filterMap_le _ _) (by simp)

set_option maxHeartbeats 4000000 in
set_option maxRecDepth 10000 in
theorem rfind_spec {w : World} {k : Nat} {D : Nat → Prop} {l : List (ByteArray × ByteArray)} (FD : RDir w k D l) {key : ByteArray} (hk : key.size ≤ 9223372036854775807) :
    Meets Try.prog 15 [.pointer (some ⟨k, 0, none⟩), .string key] w fun r w' => r = .tuple #[.int .i64 (rfI l key), .bool (rfB l key)] ∧ Gr w w' := by
  obtain ⟨ao, co, Fk, Fo⟩ := FD.ex
  have hok := FD.ok
  have hkl := Fk.lt
  have HG := V.Fr.refl [] w
  refine V.enter (n := 28) Try.func15 rfl rfl (by decide) rfl ?_
  refine V.seq ?_
  refine V.region ?_
  refine V.run T_ok 2 rfl ?_
  refine V.nil ?_
  refine V.tN ?_
  refine V.seq ?_
  refine V.seq ?_
  refine V.region ?_
  refine V.run T_ok 1 rfl ?_
  refine V.nil ?_
  refine V.tN ?_
  refine V.block ?_
  refine V.loopM (fun m e v2 => Fr [] w v2 ∧ w.heap.size ≤ v2.heap.size ∧ Cells v2 k [.slice ao l.length co] 38 ∧ Sl (V.Cod.pair V.Cod.str V.Cod.str) v2 D ao co l ∧ RDir v2 k D l ∧ ∃ (i : Nat) , m = l.length - i ∧ i ≤ l.length ∧ (∀ j (hj : j < l.length), j < i → hasB l[j].1 l[j].2 key = false) ∧ e 0 = .pointer (some ⟨k, 0, none⟩) ∧ e 1 = .string key ∧ e 6 = .int .i64 (i : Int)) ?_ ?_
  ·
    exact ⟨_, HG, (by omega), Fk, Fo, FD, (0), rfl, (by omega), (fun j hj h => absurd h (Nat.not_lt_zero _)), rfl, rfl, rfl⟩
  clear HG Fk Fo FD
  rintro _ e v2 ⟨HG, z3, Fk, Fo, FD, i, rfl, hi, hno, he0_0, he0_1, he0_6⟩
  refine V.knownC (t := 0) he0_0 ?_
  refine V.knownC (t := 1) he0_1 ?_
  refine V.knownC (t := 6) he0_6 ?_
  refine V.seq ?_
  refine V.seq ?_
  refine V.region ?_
  refine V.run T_ok 4 rfl ?_
  refine V.loadO T_ok Fk rfl rfl rfl rfl rfl ?_
  refine V.run T_ok 2 rfl ?_
  refine V.nil ?_
  refine V.tN ?_
  refine V.condT rfl (fun h2 => ?_) (fun h2 => ?_)
  ·
    try simp only [decide_eq_true_eq, decide_eq_false_iff_not, Bool.or_eq_true, Bool.and_eq_true, Bool.or_eq_false_iff, Bool.and_eq_false_iff, Bool.not_eq_true', Bool.not_eq_false', Int.not_lt, Int.not_le, Decidable.not_not, V.u8eq, V.S_inj, V.S_lit, V.S_lit2, V.bl] at h2
    try simp only [V.mk0, V.mk1, V.mk2, V.mk3] at h2
    refine V.skip ?_
    refine V.tN ?_
    refine V.seq ?_
    refine V.block ?_
    refine V.seq ?_
    refine V.region ?_
    refine V.run T_ok 3 rfl ?_
    refine V.loadO T_ok Fk rfl rfl rfl rfl rfl ?_
    refine V.run T_ok 1 rfl ?_
    refine V.elem T_ok Fo rfl rfl sz24 rfl rfl rfl rfl (by first | omega | (simp only [List.length_take, List.length_drop, List.length_append, List.length_cons, List.length_nil, List.length_replicate, List.length_set, V.length_data, V.S_size]; omega)) (by first | omega | (simp only [List.length_take, List.length_drop, List.length_append, List.length_cons, List.length_nil, List.length_replicate, List.length_set, V.length_data, V.S_size]; omega)) ?_
    rintro b4 o5 cs6 hx7 hb8 hR11 hA9
    obtain ⟨x10, hx10⟩ : ∃ z', l[((i : Int)).toNat] = z' := ⟨_, rfl⟩
    rw [hx10] at hR11
    obtain ⟨_, _, rfl, rfl, rfl⟩ := hR11
    try simp only [Int.toNat_natCast] at hx10 hx7
    refine V.loadA T_ok (o0 := o5) (off := 0) hA9 rfl rfl rfl rfl rfl ?_
    refine V.run T_ok 1 rfl ?_
    have hsz := hok.2 x10 (by rw [← hx10]; exact List.getElem_mem _)
    refine V.call (rhas_spec (f := x10.1) (t := x10.2) (k := key) (by first | omega | decide | (simp only [V.S_size, List.length_cons, List.length_nil]; omega)) (by first | omega | decide | (simp only [V.S_size, List.length_cons, List.length_nil]; omega)) (by first | omega | decide | (simp only [V.S_size, List.length_cons, List.length_nil]; omega))) rfl rfl rfl ?_
    rintro _ w12 ⟨rfl, G13⟩
    have z14 := V.Fr.size G13
    try replace Fk := Fk.gr G13
    try replace Fo := Fo.gr G13
    try replace FD := FD.gr G13
    replace HG := HG.grow G13
    clear G13
    refine V.run T_ok 1 rfl ?_
    refine V.nil ?_
    refine V.tN ?_
    refine V.seq ?_
    refine V.region ?_
    refine V.run T_ok 1 rfl ?_
    refine V.nil ?_
    refine V.tN ?_
    refine V.condT rfl (fun h5 => ?_) (fun h5 => ?_)
    ·
      try simp only [decide_eq_true_eq, decide_eq_false_iff_not, Bool.or_eq_true, Bool.and_eq_true, Bool.or_eq_false_iff, Bool.and_eq_false_iff, Bool.not_eq_true', Bool.not_eq_false', Int.not_lt, Int.not_le, Decidable.not_not, V.u8eq, V.S_inj, V.S_lit, V.S_lit2, V.bl] at h5
      try simp only [V.mk0, V.mk1, V.mk2, V.mk3] at h5
      refine V.seq ?_
      refine V.region ?_
      refine V.run T_ok 3 rfl ?_
      refine V.nil ?_
      refine V.tN ?_
      refine V.ret ?_
      refine V.bR ?_
      refine V.tR ?_
      refine V.tR ?_
      refine V.bR ?_
      refine V.tR ?_
      refine V.done rfl ?_
      rw [(rf_at hno (by omega) hx10 (by assumption)).1, (rf_at hno (by omega) hx10 (by assumption)).2]
      exact ⟨(by first | rfl | simp only [List.length_set]), HG⟩
    ·
      try simp only [decide_eq_true_eq, decide_eq_false_iff_not, Bool.or_eq_true, Bool.and_eq_true, Bool.or_eq_false_iff, Bool.and_eq_false_iff, Bool.not_eq_true', Bool.not_eq_false', Int.not_lt, Int.not_le, Decidable.not_not, V.u8eq, V.S_inj, V.S_lit, V.S_lit2, V.bl] at h5
      try simp only [V.mk0, V.mk1, V.mk2, V.mk3] at h5
      refine V.skip ?_
      refine V.bN ?_
      refine V.tN ?_
      refine V.region ?_
      refine V.run T_ok 1 rfl ?_
      refine V.addN rfl rfl rfl rfl rfl (by first | omega | (simp only [List.length_take, List.length_drop, List.length_append, List.length_cons, List.length_nil, List.length_replicate, List.length_set, V.length_data, V.S_size]; omega)) (by first | omega | (simp only [List.length_take, List.length_drop, List.length_append, List.length_cons, List.length_nil, List.length_replicate, List.length_set, V.length_data, V.S_size]; omega)) ?_
      refine V.run T_ok 1 rfl ?_
      refine V.nil ?_
      refine V.tN ?_
      exact ⟨_, (by omega), HG, (by omega), Fk, Fo, FD, (i + 1), rfl, (by omega), (fun j hj h => by rcases Nat.lt_or_ge j i with h2 | h2; exact hno j hj h2; obtain rfl : j = i := (by omega); subst_vars; assumption), rfl, rfl, rfl⟩
  ·
    try simp only [decide_eq_true_eq, decide_eq_false_iff_not, Bool.or_eq_true, Bool.and_eq_true, Bool.or_eq_false_iff, Bool.and_eq_false_iff, Bool.not_eq_true', Bool.not_eq_false', Int.not_lt, Int.not_le, Decidable.not_not, V.u8eq, V.S_inj, V.S_lit, V.S_lit2, V.bl] at h2
    try simp only [V.mk0, V.mk1, V.mk2, V.mk3] at h2
    refine V.exit ?_
    refine V.tX ?_
    refine V.tX ?_
    refine V.bE ?_
    refine V.tN ?_
    refine V.seq ?_
    refine V.region ?_
    refine V.run T_ok 2 rfl ?_
    refine V.nil ?_
    refine V.tN ?_
    refine V.ret ?_
    refine V.done rfl ?_
    rw [(rf_no fun j hj => hno j hj (by omega)).1, (rf_no fun j hj => hno j hj (by omega)).2]
    exact ⟨(by first | rfl | simp only [List.length_set]), HG⟩

set_option maxHeartbeats 4000000 in
set_option maxRecDepth 10000 in
theorem rparts_spec {w : World} {k : Nat} {D : Nat → Prop} {l : List (ByteArray × ByteArray)} (FD : RDir w k D l) {f : ByteArray} {t : ByteArray} (hf : f.size ≤ 9223372036854775807) (ht : t.size ≤ 9223372036854775807) :
    Meets Try.prog 17 [.pointer (some ⟨k, 0, none⟩), .agg #[.string f, .string t]] w fun r w' => ∃ (ra8 : Option Addr) (rc8 : Nat), r = .slice ra8 (rptV l f t l.length).length rc8 ∧ V.Row (V.Cod.pair (V.Cod.int .i64) (V.Cod.pair V.Cod.str V.Cod.str)) 49 w' V.None' w.heap.size w'.heap.size ra8 rc8 (rptV l f t l.length) ∧ Gr w w' := by
  replace FD := FD.flb
  obtain ⟨ao, co, Fk, Fo⟩ := FD.ex
  have hok := FD.ok
  have hkl := Fk.lt
  have HG := V.Fr.refl [] w
  refine V.enter (n := 38) Try.func17 rfl rfl (by decide) rfl ?_
  refine V.seq ?_
  refine V.region ?_
  refine V.box rfl rfl rfl rfl ?_
  rintro k1 w3 s5 s6 G4 Fk2
  have z7 := V.Fr.size G4
  try replace Fk := Fk.gr G4
  try replace Fo := Fo.gr G4
  try replace FD := FD.gr G4
  replace HG := HG.grow G4
  clear G4
  try simp only [V.cellsL, V.spliceL] at Fk2
  refine V.run T_ok 1 rfl ?_
  refine V.nil ?_
  refine V.tN ?_
  refine V.seq ?_
  refine V.region ?_
  refine V.run T_ok 1 rfl ?_
  refine V.nil ?_
  refine V.tN ?_
  refine V.seq ?_
  refine V.seq ?_
  refine V.region ?_
  refine V.run T_ok 1 rfl ?_
  refine V.nil ?_
  refine V.tN ?_
  refine V.block ?_
  refine V.loopM (fun m e v9 => Fr [] w v9 ∧ w3.heap.size ≤ v9.heap.size ∧ Cells v9 k [.slice ao l.length co] 38 ∧ Sl (V.Cod.pair V.Cod.str V.Cod.str) v9 (fun j => D j ∧ j < w.heap.size) ao co l ∧ RDir v9 k (fun j => D j ∧ j < w.heap.size) l ∧ Cells v9 k1 [.string f, .string t] 24 ∧ ∃ (i : Nat) (ra9 : Option Addr) (rc9 : Nat), m = l.length - i ∧ i ≤ l.length ∧ V.Row (V.Cod.pair (V.Cod.int .i64) (V.Cod.pair V.Cod.str V.Cod.str)) 49 v9 V.None' w3.heap.size v9.heap.size ra9 rc9 (rptV l f t i) ∧ e 0 = .pointer (some ⟨k, 0, none⟩) ∧ e 3 = .pointer (some ⟨k1, 0, none⟩) ∧ e 5 = .slice ra9 (rptV l f t i).length rc9 ∧ e 6 = .int .i64 (i : Int)) ?_ ?_
  ·
    exact ⟨_, HG, (by omega), Fk, Fo, FD, Fk2, (0), none, 0, rfl, (by omega), V.Row.nil, rfl, rfl, rfl, rfl⟩
  clear HG Fk Fo FD Fk2
  rintro _ e v9 ⟨HG, z10, Fk, Fo, FD, Fk2, i, ra9, rc9, rfl, hi, rF9, he0_0, he0_3, he0_5, he0_6⟩
  have hpl := rptV_len (l := l) (f := f) (t := t) (n := i)
  refine V.knownC (t := 0) he0_0 ?_
  refine V.knownC (t := 3) he0_3 ?_
  refine V.knownC (t := 5) he0_5 ?_
  refine V.knownC (t := 6) he0_6 ?_
  refine V.seq ?_
  refine V.seq ?_
  refine V.region ?_
  refine V.run T_ok 4 rfl ?_
  refine V.loadO T_ok Fk rfl rfl rfl rfl rfl ?_
  refine V.run T_ok 2 rfl ?_
  refine V.nil ?_
  refine V.tN ?_
  refine V.condT rfl (fun h3 => ?_) (fun h3 => ?_)
  ·
    try simp only [decide_eq_true_eq, decide_eq_false_iff_not, Bool.or_eq_true, Bool.and_eq_true, Bool.or_eq_false_iff, Bool.and_eq_false_iff, Bool.not_eq_true', Bool.not_eq_false', Int.not_lt, Int.not_le, Decidable.not_not, V.u8eq, V.S_inj, V.S_lit, V.S_lit2, V.bl] at h3
    try simp only [V.mk0, V.mk1, V.mk2, V.mk3] at h3
    refine V.skip ?_
    refine V.tN ?_
    refine V.seq ?_
    refine V.block ?_
    refine V.seq ?_
    have hlt0 : i < l.length := by omega
    obtain ⟨x11, hx11⟩ : ∃ z', l[i] = z' := ⟨_, rfl⟩
    have hsz := hok.2 x11 (by rw [← hx11]; exact List.getElem_mem _)
    refine V.drawE 11 13 mixed rfl (V.pure_extract rfl) (by kernel_rfl) ?_
    refine V.drawGT_any 13 (V.sel [(8, (fun v wz => v = .tuple #[.agg #[.string ((clipR f t x11.1 x11.2).1), .string ((clipR f t x11.1 x11.2).2)], .bool (meetB f t x11.1 x11.2)])), (12, V.newC v9.heap.size [.string ByteArray.empty, .string ByteArray.empty] 24)]) (by kernel_rfl) (V.mono_cons V.eqV_mono (V.mono_cons V.newC_mono V.mono_nil)) ?_
    refine V.gloadO T_ok (fun w' h => Fk2.gr h.1) rfl rfl rfl rfl rfl rfl ?_
    refine V.grun T_ok 3 rfl (V.sel_none rfl) ?_
    refine V.gloadO T_ok (fun w' h => Fk.gr h.1) rfl rfl rfl rfl rfl rfl ?_
    refine V.grun T_ok 1 rfl (V.sel_none rfl) ?_
    refine V.gelem T_ok Fo rfl rfl sz24 rfl rfl rfl rfl (by first | omega | (simp only [List.length_take, List.length_drop, List.length_append, List.length_cons, List.length_nil, List.length_replicate, List.length_set, V.length_data, V.S_size]; omega)) (by first | omega | (simp only [List.length_take, List.length_drop, List.length_append, List.length_cons, List.length_nil, List.length_replicate, List.length_set, V.length_data, V.S_size]; omega)) ?_
    rintro b12 o13 cs14 hx15 hb16 hR19 hA17
    obtain ⟨x18, hx18⟩ : ∃ z', l[((i : Int)).toNat] = z' := ⟨_, rfl⟩
    rw [hx18] at hR19
    obtain ⟨_, _, rfl, rfl, rfl⟩ := hR19
    try simp only [Int.toNat_natCast] at hx18 hx15
    obtain rfl : x11 = x18 := hx11.symm.trans hx18
    refine V.gloadA T_ok (o0 := o13) (off := 0) (fun w' h => hA17.mv h.1 (by simp)) rfl rfl rfl rfl rfl rfl ?_
    refine V.gcall (fun w' h => (rclip_spec (f := f) (t := t) (f2 := x11.1) (t2 := x11.2) (by first | omega | decide | (simp only [V.S_size, List.length_cons, List.length_nil]; omega)) (by first | omega | decide | (simp only [V.S_size, List.length_cons, List.length_nil]; omega)) (by first | omega | decide | (simp only [V.S_size, List.length_cons, List.length_nil]; omega)) (by first | omega | decide | (simp only [V.S_size, List.length_cons, List.length_nil]; omega))).mono (by rintro v w'' ⟨rfl, G⟩; exact ⟨rfl, G⟩)) rfl rfl rfl rfl ?_
    rintro _ w20 - - rfl
    refine V.grun T_ok 3 rfl (V.sel_none rfl) ?_
    refine V.galloc (lo := v9.heap.size) zero24 (by omega) rfl rfl rfl rfl ?_
    rintro k21
    refine V.gnil ?_
    rintro w23 G24 hH25
    have z26 := V.Fr.size G24
    try replace Fk := Fk.gr G24
    try replace Fo := Fo.gr G24
    try replace FD := FD.gr G24
    try replace Fk2 := Fk2.gr G24
    try replace rF9 := rF9.gr G24
    replace HG := HG.grow G24
    clear G24
    have Fk22 := V.newC_get (V.Hist.here (hH25 12))
    have hk27 := V.newC_lt (V.Hist.here (hH25 12))
    clear hH25
    refine V.storeO Fk22 rfl rfl rfl rfl sz24 rfl rfl rfl rfl ?_
    rintro w28 G29 z31 Fs30
    clear Fk22
    have z32 := V.Fr.size G29
    first | replace Fk := Fk.mv1 G29 (by omega) | clear Fk | skip
    first | replace Fo := Fo.mv1 G29 (by first | exact (fun h => by have := h.1; have := h.2; omega) | exact (fun h => by omega) | exact (fun h => by have := h.1.1; have := h.1.2; omega) | exact (fun h => h.2 rfl) | exact (fun h => hnk h.1) | first | omega | exact fun h => h | exact ⟨by omega, fun h => h⟩ | (intro h; first | (have := hD _ h; omega)) | (refine ⟨by omega, ?_⟩; intro h; first | (have := hD _ h; omega))) | clear Fo | skip
    first | replace FD := FD.mv1 G29 (by first | exact ⟨by omega, by assumption⟩ | exact ⟨by omega, fun h => absurd h.1 (by assumption)⟩ | exact ⟨by omega, fun h => absurd h.1.1 (by assumption)⟩ | exact ⟨by omega, fun h => by first | (have h2 := h.1; have h3 := h.2; omega) | (have h2 := h; dsimp only at h2; omega)⟩ | first | omega | exact fun h => h | exact ⟨by omega, fun h => h⟩ | (intro h; first | (have := hD _ h; omega)) | (refine ⟨by omega, ?_⟩; intro h; first | (have := hD _ h; omega))) | clear FD | skip
    first | replace Fk2 := Fk2.mv1 G29 (by omega) | clear Fk2 | skip
    first | replace rF9 := rF9.mv1 G29 (by first | exact ⟨fun h => h, fun h => by have := h.1; have := h.2; omega⟩ | omega) | clear rF9 | skip
    replace HG := HG.new1 G29 (by first | (refine Or.inr ?_; omega) | (refine Or.inl ?_; simp; done))
    clear G29
    have Fk22 := Fs30; clear Fs30
    simp only [V.spliceL, V.cellsL] at Fk22
    refine V.run T_ok 1 rfl ?_
    refine V.nil ?_
    refine V.to_nrm ?_
    refine V.tN ?_
    refine V.seq ?_
    refine V.region ?_
    refine V.run T_ok 1 rfl ?_
    refine V.nil ?_
    refine V.tN ?_
    refine V.condT rfl (fun h6 => ?_) (fun h6 => ?_)
    ·
      try simp only [decide_eq_true_eq, decide_eq_false_iff_not, Bool.or_eq_true, Bool.and_eq_true, Bool.or_eq_false_iff, Bool.and_eq_false_iff, Bool.not_eq_true', Bool.not_eq_false', Int.not_lt, Int.not_le, Decidable.not_not, V.u8eq, V.S_inj, V.S_lit, V.S_lit2, V.bl] at h6
      try simp only [V.mk0, V.mk1, V.mk2, V.mk3] at h6
      refine V.region ?_
      refine V.run T_ok 2 rfl ?_
      refine V.loadO T_ok Fk22 rfl rfl rfl rfl rfl ?_
      refine V.mkStruct T_ok zero49 rfl rfl rfl rfl rfl ?_
      refine V.mkSlice T_ok zero49 rfl rfl sz49 rfl rfl rfl rfl rfl rfl ?_
      rintro k33 w36 s38 s39 G37 Fk34
      have z40 := V.Fr.size G37
      try replace Fk := Fk.gr G37
      try replace Fo := Fo.gr G37
      try replace FD := FD.gr G37
      try replace Fk2 := Fk2.gr G37
      try replace rF9 := rF9.gr G37
      try replace Fk22 := Fk22.gr G37
      replace HG := HG.grow G37
      clear G37
      have F35 := V.rowOfC (xs := ([((i : Int), ((clipR f t x11.1 x11.2).1, (clipR f t x11.1 x11.2).2))] : List (Int × ByteArray × ByteArray))) Fk34 (C := (V.Cod.pair (V.Cod.int .i64) (V.Cod.pair V.Cod.str V.Cod.str))) (V.reps_cons (x := ((i : Int), ((clipR f t x11.1 x11.2).1, (clipR f t x11.1 x11.2).2))) ⟨_, _, rfl, rfl, ⟨_, _, rfl, rfl, rfl⟩⟩ rfl rfl) rfl
      clear Fk34
      refine V.appendR (rF9) (V.From.flat V.flat_part (D' := V.None') (F35.sl.from Try.underlying45)) elT45_45 rfl rfl rfl rfl rfl (by first | omega | (simp only [List.length_take, List.length_drop, List.length_append, List.length_cons, List.length_nil, List.length_replicate, List.length_set, V.length_data, V.S_size]; omega)) (by unfold maxLen; first | omega | (simp only [List.length_take, List.length_drop, List.length_append, List.length_cons, List.length_nil, List.length_replicate, List.length_set, V.length_data, V.S_size]; omega)) (by omega) (by omega) (fun _ h => h.elim) (fun _ h => h.elim) ?_
      rintro a41 c42 w44 G45 s46 F43
      clear rF9
      clear F35
      have z47 := Go.RowKit.Below.size G45
      first | replace Fk := V.Cells.bl Fk G45 (by omega) | clear Fk | skip
      first | replace Fo := V.Sl.bl Fo G45 (by first | exact (fun _ h => by have := h.2; omega) | (intro k h; have := hD k h; omega)) | clear Fo | skip
      first | replace FD := FD.bl G45 (by first | exact ⟨by omega, fun j h => by have := h.2; omega⟩ | (first | omega | exact fun h => h | exact ⟨by omega, fun h => h⟩ | (intro h; first | (have := hD _ h; omega)) | (refine ⟨by omega, ?_⟩; intro h; first | (have := hD _ h; omega)))) | clear FD | skip
      first | replace Fk2 := V.Cells.bl Fk2 G45 (by omega) | clear Fk2 | skip
      first | replace Fk22 := V.Cells.bl Fk22 G45 (by omega) | clear Fk22 | skip
      replace HG := HG.bl (Go.RowKit.Below.mono G45 (by omega))
      clear G45
      refine V.run T_ok 1 rfl ?_
      refine V.nil ?_
      refine V.bN ?_
      refine V.tN ?_
      refine V.region ?_
      refine V.run T_ok 1 rfl ?_
      refine V.addN rfl rfl rfl rfl rfl (by first | omega | (simp only [List.length_take, List.length_drop, List.length_append, List.length_cons, List.length_nil, List.length_replicate, List.length_set, V.length_data, V.S_size]; omega)) (by first | omega | (simp only [List.length_take, List.length_drop, List.length_append, List.length_cons, List.length_nil, List.length_replicate, List.length_set, V.length_data, V.S_size]; omega)) ?_
      refine V.run T_ok 1 rfl ?_
      refine V.nil ?_
      refine V.tN ?_
      have hr48 : (rptV l f t i) ++ ([((i : Int), ((clipR f t x11.1 x11.2).1, (clipR f t x11.1 x11.2).2))] : List (Int × ByteArray × ByteArray)) = rptV l f t (i + 1) := (by rw [rptV_succ (by omega) hx11]; first | (rw [if_pos (by assumption)]; done) | (rw [if_pos (by assumption)]; rfl) | (rw [if_neg (by simp [*]), List.append_nil]))
      rw [hr48] at F43 ⊢
      clear hr48
      
      exact ⟨_, (by omega), HG, (by omega), Fk, Fo, FD, Fk2, (i + 1), a41, c42, rfl, (by omega), (by first | exact F43 | exact F43.mono (fun _ h => h) (by omega) (by omega)), rfl, rfl, rfl, rfl⟩
    ·
      try simp only [decide_eq_true_eq, decide_eq_false_iff_not, Bool.or_eq_true, Bool.and_eq_true, Bool.or_eq_false_iff, Bool.and_eq_false_iff, Bool.not_eq_true', Bool.not_eq_false', Int.not_lt, Int.not_le, Decidable.not_not, V.u8eq, V.S_inj, V.S_lit, V.S_lit2, V.bl] at h6
      try simp only [V.mk0, V.mk1, V.mk2, V.mk3] at h6
      refine V.skip ?_
      refine V.bN ?_
      refine V.tN ?_
      refine V.region ?_
      refine V.run T_ok 1 rfl ?_
      refine V.addN rfl rfl rfl rfl rfl (by first | omega | (simp only [List.length_take, List.length_drop, List.length_append, List.length_cons, List.length_nil, List.length_replicate, List.length_set, V.length_data, V.S_size]; omega)) (by first | omega | (simp only [List.length_take, List.length_drop, List.length_append, List.length_cons, List.length_nil, List.length_replicate, List.length_set, V.length_data, V.S_size]; omega)) ?_
      refine V.run T_ok 1 rfl ?_
      refine V.nil ?_
      refine V.tN ?_
      have hr49 : rptV l f t i = rptV l f t (i + 1) := (by rw [rptV_succ (by omega) hx11]; first | (rw [if_pos (by assumption)]; done) | (rw [if_pos (by assumption)]; rfl) | (rw [if_neg (by simp [*]), List.append_nil]))
      rw [hr49] at rF9 ⊢
      clear hr49
      
      exact ⟨_, (by omega), HG, (by omega), Fk, Fo, FD, Fk2, (i + 1), ra9, rc9, rfl, (by omega), (by first | exact rF9 | exact rF9.mono (fun _ h => h) (by omega) (by omega)), rfl, rfl, rfl, rfl⟩
  ·
    try simp only [decide_eq_true_eq, decide_eq_false_iff_not, Bool.or_eq_true, Bool.and_eq_true, Bool.or_eq_false_iff, Bool.and_eq_false_iff, Bool.not_eq_true', Bool.not_eq_false', Int.not_lt, Int.not_le, Decidable.not_not, V.u8eq, V.S_inj, V.S_lit, V.S_lit2, V.bl] at h3
    try simp only [V.mk0, V.mk1, V.mk2, V.mk3] at h3
    refine V.exit ?_
    refine V.tX ?_
    refine V.tX ?_
    refine V.bE ?_
    refine V.tN ?_
    refine V.seq ?_
    have hr50 : rptV l f t i = rptV l f t l.length := (by rw [show i = l.length by omega])
    rw [hr50] at rF9 ⊢
    clear hr50
    refine V.region ?_
    refine V.run T_ok 2 rfl ?_
    refine V.nil ?_
    refine V.tN ?_
    refine V.ret ?_
    refine V.done rfl ?_
    exact ⟨ra9, rc9, (by first | rfl | simp only [List.length_set]), (by first | exact rF9 | exact rF9.mono (fun _ h => h) (by omega) (by omega)), HG⟩

end Go.Proofs.Ytbfaobkahgadaaa
