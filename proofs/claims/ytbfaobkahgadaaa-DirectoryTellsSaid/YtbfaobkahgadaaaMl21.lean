/- Proved here: walks: what functions of this seat's program return and what they leave of memory, each as a contract. Conditions: stated at each theorem. -/
import Derived.Test.YtbfaobkahgadaaaMdir
namespace Go.Proofs.Ytbfaobkahgadaaa
set_option linter.unusedVariables false
set_option linter.unusedSimpArgs false
open Go
open V (Bytes Meets Env Sl Own Gr Fr Cells S)
theorem eqG24 : Try.prog.eqGuardType Try.prog.depth 24 = false := by kernel_rfl
theorem eqD24 (d : Nat) (w : World) {x0 y0 : ByteArray} {x1 y1 : ByteArray} : (Op.equalIn (d + 2) 24 (.agg #[.string x0, .string x1]) (.agg #[.string y0, .string y1])).run Try.prog w = .ok ((decide (x0 = y0)) && ((decide (x1 = y1)) && (true))) w :=
  V.eqIn_struct _ Try.underlying24 (by kernel_rfl) (V.eqF_cons (agg := false) (by decide) sz9 (by kernel_rfl) (by kernel_rfl) rfl rfl (V.eqIn_str _ Try.underlying9) (V.eqF_cons (agg := false) (by decide) sz9 (by kernel_rfl) (by kernel_rfl) rfl rfl (V.eqIn_str _ Try.underlying9) V.eqF_nil))
theorem eqS24 (w : World) {x0 y0 : ByteArray} {x1 y1 : ByteArray} : (Op.equalIn 10000 24 (.agg #[.string x0, .string x1]) (.agg #[.string y0, .string y1])).run Try.prog w = .ok ((decide (x0 = y0)) && ((decide (x1 = y1)) && (true))) w := eqD24 9998 w
theorem eqG48 : Try.prog.eqGuardType Try.prog.depth 48 = false := by kernel_rfl
theorem eqD48 (d : Nat) (w : World) {x0 y0 : Int} {x1 y1 : ByteArray} {x2 y2 : ByteArray} : (Op.equalIn (d + 3) 48 (.agg #[.int .i64 x0, .string x1, .string x2]) (.agg #[.int .i64 y0, .string y1, .string y2])).run Try.prog w = .ok ((decide (x0 = y0)) && (((decide (x1 = y1)) && ((decide (x2 = y2)) && (true))) && (true))) w :=
  V.eqIn_struct _ Try.underlying48 (by kernel_rfl) (V.eqF_cons (agg := false) (by decide) sz3 (by kernel_rfl) (by kernel_rfl) rfl rfl (V.eqIn_int _ Try.underlying3) (V.eqF_cons (agg := true) (by decide) sz24 (by kernel_rfl) (by kernel_rfl) rfl rfl (eqD24 _ w) V.eqF_nil))
theorem eqS48 (w : World) {x0 y0 : Int} {x1 y1 : ByteArray} {x2 y2 : ByteArray} : (Op.equalIn 10000 48 (.agg #[.int .i64 x0, .string x1, .string x2]) (.agg #[.int .i64 y0, .string y1, .string y2])).run Try.prog w = .ok ((decide (x0 = y0)) && (((decide (x1 = y1)) && ((decide (x2 = y2)) && (true))) && (true))) w := eqD48 9997 w

theorem key_lo {s : ByteArray} (h : isKey s = true) : S [97] ≤ s ∧ s < S [123] ∧ ¬ s = S [] := by
  unfold isKey letB at h
  simp only [Bool.and_eq_true, decide_eq_true_eq, List.all_eq_true] at h
  obtain ⟨⟨h1, h2⟩, _⟩ := h
  refine ⟨?_, ?_, h2⟩
  · show [97] ≤ s.data.toList
    cases hs : s.data.toList with
    | nil => exact absurd (V.bs_inj.2 hs) h2
    | cons c l =>
      have hc := (h1 c (by rw [hs]; simp)).1
      rw [← Std.not_lt]
      intro hlt
      rcases List.cons_lt_cons_iff.1 hlt with h3 | ⟨_, h3⟩
      · have : c.toNat < 97 := h3
        omega
      · exact absurd h3 (List.not_lt_nil _)
  · show s.data.toList < [123]
    cases hs : s.data.toList with
    | nil => exact absurd (V.bs_inj.2 hs) h2
    | cons c l =>
      have hc := (h1 c (by rw [hs]; simp)).2
      refine List.cons_lt_cons_iff.2 (.inl ?_)
      show c.toNat < 123
      omega
theorem key_a : isKey (S [97]) = true := by decide +kernel
theorem not_key_top : isKey (S [123]) = false := by decide +kernel
theorem top_ne : ¬ S [123] = S [] := by decide +kernel
theorem right_iff {f t : ByteArray} : rightB f t = true ↔ isKey f = true ∧ (t = S [] ∨ (t = S [123] ∨ isKey t = true) ∧ f < t) := by unfold rightB; simp
theorem has_iff {f t k : ByteArray} : hasB f t k = true ↔ rightB f t = true ∧ isKey k = true ∧ (t = S [] ∧ k = f ∨ ¬ t = S [] ∧ f ≤ k ∧ k < t) := by
  unfold hasB
  by_cases h : t = S [] <;> simp [h, and_assoc]
theorem meet_iff {f t f' t' : ByteArray} : meetB f t f' t' = true ↔ rightB f t = true ∧ rightB f' t' = true ∧ (hasB f t f' = true ∨ hasB f' t' f = true) := by unfold meetB; simp [and_assoc]
theorem meet_has {f t f' t' : ByteArray} (h : meetB f t f' t' = true) : ∃ k, hasB f t k = true ∧ hasB f' t' k = true := by
  rw [meet_iff] at h
  obtain ⟨h1, h2, h3⟩ := h
  rcases h3 with h3 | h3
  · refine ⟨f', h3, ?_⟩
    rw [has_iff] at *
    rw [right_iff] at h2
    exact ⟨right_iff.2 h2, h2.1, by grind⟩
  · refine ⟨f, ?_, h3⟩
    rw [has_iff] at *
    rw [right_iff] at h1
    exact ⟨right_iff.2 h1, h1.1, by grind⟩
theorem has_meet {f t f' t' k : ByteArray} (h1 : hasB f t k = true) (h2 : hasB f' t' k = true) : meetB f t f' t' = true := by
  rw [meet_iff]
  rw [has_iff] at h1 h2
  refine ⟨h1.1, h2.1, ?_⟩
  have r1 := right_iff.1 h1.1
  have r2 := right_iff.1 h2.1
  rw [has_iff, has_iff]
  grind
theorem max_cases (a b : ByteArray) : (maxS a b = a ∧ b ≤ a) ∨ (maxS a b = b ∧ a ≤ b) := by unfold maxS; split <;> grind
theorem min_cases (a b : ByteArray) : (minS a b = a ∧ a ≤ b) ∨ (minS a b = b ∧ b ≤ a) := by unfold minS; split <;> grind
theorem clip_has {f t f' t' k : ByteArray} (h : meetB f t f' t' = true) : hasB (clipR f t f' t').1 (clipR f t f' t').2 k = (hasB f t k && hasB f' t' k) := by
  obtain ⟨m1, m2, m3⟩ := meet_iff.1 h
  have r1 := right_iff.1 m1
  have r2 := right_iff.1 m2
  unfold clipR
  rw [if_pos h]
  unfold clipV
  rw [has_iff, has_iff] at m3
  by_cases ht : t = S []
  · rw [if_pos ht]
    rw [Bool.eq_iff_iff, Bool.and_eq_true, has_iff, has_iff]
    grind
  · rw [if_neg ht]
    by_cases ht' : t' = S []
    · rw [if_pos ht']
      rw [Bool.eq_iff_iff, Bool.and_eq_true, has_iff, has_iff]
      grind
    · rw [if_neg ht']
      rw [Bool.eq_iff_iff, Bool.and_eq_true, has_iff, has_iff, has_iff, right_iff]
      have e1 := max_cases f f'
      have e2 := min_cases t t'
      simp only
      generalize maxS f f' = F at *
      generalize minS t t' = T at *
      grind
/-- the bounds of a right directory -/
structure Good (bs : List ByteArray) : Prop where
  len : 2 ≤ bs.length
  lt : ∀ j, j + 1 < bs.length → bs.getD j (S []) < bs.getD (j + 1) (S [])
  key : ∀ j, j + 1 < bs.length → isKey (bs.getD j (S [])) = true
  top : bs.getD (bs.length - 1) (S []) = S [123]
  bot : bs.getD 0 (S []) = S [97]
theorem good_bnds {sp : List ByteArray} (h : okB sp = true) : Good (bnds sp) := by
  have hl := bnds_len (sp := sp)
  have hkey : ∀ j, j + 1 < (bnds sp).length → isKey ((bnds sp).getD j (S [])) = true := fun j hj => by
    cases j with
    | zero => exact key_a
    | succ j =>
      have hj' : j < sp.length := by omega
      rw [bnds_at hj' rfl]; exact okB_key h hj' rfl
  have htop : (bnds sp).getD ((bnds sp).length - 1) (S []) = S [123] := by rw [hl]; exact bnds_end (i := sp.length) rfl
  refine ⟨by omega, fun j hj => ?_, hkey, htop, rfl⟩
  rcases Nat.lt_or_ge j sp.length with h1 | h1
  · have := (okB_at' h h1 rfl).2
    rw [bnds_at h1 rfl]; exact this
  · have hjn : j = sp.length := by omega
    have := (key_lo (hkey j hj)).2.1
    rw [bnds_end hjn]; exact this
theorem Good.mono {bs : List ByteArray} (h : Good bs) {i j : Nat} (hij : i < j) (hj : j < bs.length) : bs.getD i (S []) < bs.getD j (S []) := by
  induction j with
  | zero => omega
  | succ j ih =>
    have h1 := h.lt j hj
    rcases Nat.lt_or_ge i j with h2 | h2
    · have := ih h2 (by omega); grind
    · obtain rfl : i = j := by omega
      exact h1
theorem Good.rg {bs : List ByteArray} (h : Good bs) {j : Nat} (hj : j + 1 < bs.length) : rgV bs j = (bs.getD j (S []), bs.getD (j + 1) (S [])) := by
  unfold rgV inR; rw [if_pos (by simp; omega)]; rfl
theorem Good.next {bs : List ByteArray} (h : Good bs) {j : Nat} (hj : j + 1 < bs.length) : ¬ bs.getD (j + 1) (S []) = S [] ∧ (bs.getD (j + 1) (S []) = S [123] ∨ isKey (bs.getD (j + 1) (S [])) = true) := by
  rcases Nat.lt_or_ge (j + 2) bs.length with h1 | h1
  · have := h.key (j + 1) h1
    exact ⟨(key_lo this).2.2, .inr this⟩
  · have hj2 : j + 1 = bs.length - 1 := by omega
    have := h.top
    rw [hj2, this]
    exact ⟨top_ne, .inl rfl⟩
theorem Good.right {bs : List ByteArray} (h : Good bs) {j : Nat} (hj : j + 1 < bs.length) : rightB (rgV bs j).1 (rgV bs j).2 = true := by
  rw [h.rg hj, right_iff]
  exact ⟨h.key j hj, .inr ⟨(h.next hj).2, h.lt j hj⟩⟩
theorem Good.has {bs : List ByteArray} (h : Good bs) {j : Nat} (hj : j + 1 < bs.length) {k : ByteArray} : hasB (rgV bs j).1 (rgV bs j).2 k = true ↔ isKey k = true ∧ bs.getD j (S []) ≤ k ∧ k < bs.getD (j + 1) (S []) := by
  have h1 := h.right hj
  rw [h.rg hj] at *
  have h2 := (h.next hj).1
  rw [has_iff]
  simp only [h1, h2]
  simp
theorem Good.find {bs : List ByteArray} (h : Good bs) {k : ByteArray} (hk : isKey k = true) : ∃ n : Nat, ixF bs k = n + 1 ∧ n + 1 < bs.length ∧ bs.getD n (S []) ≤ k ∧ k < bs.getD (n + 1) (S []) := by
  have hkl := key_lo hk
  have hlast : k < bs.getD (bs.length - 1) (S []) := by rw [h.top]; exact hkl.2.1
  have hl := h.len
  -- the first one above
  have hex : ∃ m, m < bs.length ∧ k < bs.getD m (S []) ∧ ∀ j, j < m → ¬ k < bs.getD j (S []) := by
    have : ∀ q, q < bs.length → k < bs.getD q (S []) → ∃ m, m < bs.length ∧ k < bs.getD m (S []) ∧ ∀ j, j < m → ¬ k < bs.getD j (S []) := by
      intro q
      induction q using Nat.strongRecOn with
      | _ q ih =>
        intro hq hq2
        by_cases hc : ∃ j, j < q ∧ k < bs.getD j (S [])
        · obtain ⟨j, hj, hj2⟩ := hc; exact ih j hj (by omega) hj2
        · exact ⟨q, hq, hq2, fun j hj hj2 => hc ⟨j, hj, hj2⟩⟩
    exact this _ (by omega) hlast
  obtain ⟨m, hm, hm1, hm2⟩ := hex
  have hgd : ∀ j (hj : j < bs.length), bs.getD j (S []) = bs[j] := fun j hj => getD_at hj rfl
  cases m with
  | zero =>
    exfalso
    have h0 := h.bot
    grind
  | succ n =>
    refine ⟨n, ?_, hm, ?_, hm1⟩
    · have := ixF_at (l := bs) (key := k) (i := n + 1) (fun j hj hjn => by rw [← hgd j hj]; exact hm2 j hjn) hm (by rw [← hgd _ hm]; exact hm1)
      rw [this]; omega
    · have := hm2 n (by omega); grind

theorem Good.only {bs : List ByteArray} (h : Good bs) {k : ByteArray} (hk : isKey k = true) {n j : Nat} (hn : n + 1 < bs.length) (h1 : bs.getD n (S []) ≤ k) (h2 : k < bs.getD (n + 1) (S [])) (hj : j + 1 < bs.length) : hasB (rgV bs j).1 (rgV bs j).2 k = true ↔ j = n := by
  rw [h.has hj]
  constructor
  · rintro ⟨_, h3, h4⟩
    rcases Nat.lt_trichotomy j n with h5 | h5 | h5
    · exfalso
      rcases Nat.lt_or_ge (j + 1) n with h6 | h6
      · have := h.mono h6 (by omega); grind
      · have : j + 1 = n := by omega
        rw [this] at h4; grind
    · exact h5
    · exfalso
      rcases Nat.lt_or_ge (n + 1) j with h6 | h6
      · have := h.mono h6 (by omega); grind
      · have : n + 1 = j := by omega
        rw [this] at h2; grind
  · rintro rfl; exact ⟨hk, h1, h2⟩
/-- what Find tells -/
theorem Good.fd {bs : List ByteArray} (h : Good bs) {k : ByteArray} (hk : isKey k = true) : ∃ n : Nat, fdV bs k = n ∧ n + 1 < bs.length ∧ ∀ j, j + 1 < bs.length → (hasB (rgV bs (j : Nat)).1 (rgV bs (j : Nat)).2 k = true ↔ j = n) := by
  obtain ⟨n, h1, h2, h3, h4⟩ := h.find hk
  exact ⟨n, by unfold fdV; rw [if_pos hk, h1]; omega, h2, fun j hj => h.only hk h2 h3 h4 hj⟩
/-- a part that has a key is its range's -/
theorem pt_at {bs : List ByteArray} {f t : ByteArray} {n : Nat} {p : Int × ByteArray × ByteArray} (hp : p ∈ ptV bs f t n) : ∃ i : Nat, i < n ∧ p.1 = i ∧ meetB f t (rgV bs i).1 (rgV bs i).2 = true ∧ p.2 = clipR f t (rgV bs i).1 (rgV bs i).2 := by
  unfold ptV at hp
  rw [List.mem_filterMap] at hp
  obtain ⟨i, hi, h⟩ := hp
  rw [List.mem_range] at hi
  by_cases hm : meetB f t (rgV bs i).1 (rgV bs i).2 = true
  · rw [if_pos hm] at h; cases h; exact ⟨i, hi, rfl, hm, rfl⟩
  · rw [if_neg hm] at h; cases h
/-- how many parts have a key -/
def cntV (l : List (Int × ByteArray × ByteArray)) (k : ByteArray) : Nat := l.countP fun p => hasB p.2.1 p.2.2 k
theorem cnt_pt {bs : List ByteArray} (h : Good bs) {f t k : ByteArray} {m : Nat} (hk : ∀ j, j + 1 < bs.length → (hasB (rgV bs (j : Nat)).1 (rgV bs (j : Nat)).2 k = true ↔ j = m)) : ∀ n, n + 1 ≤ bs.length → cntV (ptV bs f t n) k = if hasB f t k = true ∧ m < n then 1 else 0
  | 0, _ => by simp [cntV, ptV]
  | n + 1, hn => by
    have ih := cnt_pt h (f := f) (t := t) hk n (by omega)
    have hkn := hk n (by omega)
    unfold cntV at *
    rw [ptV_succ, List.countP_append, ih]
    by_cases hm : meetB f t (rgV bs n).1 (rgV bs n).2 = true
    · rw [if_pos hm]
      have hc := clip_has (k := k) hm
      simp only [List.countP_cons, List.countP_nil, hc, Nat.zero_add]
      by_cases hx : hasB f t k = true
      · by_cases hr : n = m
        · subst hr; simp [hx, hkn.2 rfl]
        · have : ¬ hasB (rgV bs n).1 (rgV bs n).2 k = true := fun z => hr (hkn.1 z)
          simp only [hx, this]
          have e : (m < n + 1) ↔ m < n := by omega
          simp [e]
      · simp [hx]
    · rw [if_neg hm]
      simp only [List.countP_nil, Nat.add_zero]
      by_cases hx : hasB f t k = true
      · have hr : ¬ n = m := fun z => hm (has_meet hx (hkn.2 z))
        have e : (m < n + 1) ↔ m < n := by omega
        simp [hx, e]
      · simp [hx]
theorem cnt_none {k : ByteArray} (hk : ¬ isKey k = true) (l : List (Int × ByteArray × ByteArray)) : cntV l k = 0 := by
  unfold cntV
  rw [List.countP_eq_zero]
  intro p _ h
  exact hk (has_iff.1 h).2.1
theorem cnt_succ {l : List (Int × ByteArray × ByteArray)} {i : Nat} {x : Int × ByteArray × ByteArray} {k : ByteArray} (hi : i < l.length) (hx : l[i] = x) : cntV (l.take (i + 1)) k = cntV (l.take i) k + if hasB x.2.1 x.2.2 k = true then 1 else 0 := by
  subst hx
  unfold cntV
  rw [List.take_succ_eq_append_getElem hi, List.countP_append]
  simp [List.countP_cons]

theorem Good.conv {bs : List ByteArray} (h : Good bs) {f t : ByteArray} {i j k : Nat} (hij : i < j) (hjk : j < k) (hk : k + 1 < bs.length) (h1 : meetB f t (rgV bs i).1 (rgV bs i).2 = true) (h2 : meetB f t (rgV bs k).1 (rgV bs k).2 = true) : meetB f t (rgV bs j).1 (rgV bs j).2 = true := by
  obtain ⟨a, ha1, ha2⟩ := meet_has h1
  obtain ⟨b, hb1, hb2⟩ := meet_has h2
  rw [h.has (by omega)] at ha2 hb2
  have e1 : bs.getD (i + 1) (S []) ≤ bs.getD j (S []) := by
    rcases Nat.lt_or_ge (i + 1) j with h6 | h6
    · have := h.mono h6 (by omega); grind
    · have : i + 1 = j := by omega
      rw [this]; grind
  have e2 := h.mono hjk (by omega)
  have hj1 := h.lt j (by omega)
  have hkj := h.key j (by omega)
  refine has_meet (k := bs.getD j (S [])) ?_ ((h.has (by omega)).2 ⟨hkj, by grind, hj1⟩)
  rw [has_iff] at *
  refine ⟨ha1.1, hkj, ?_⟩
  grind
def NextOk (l : List (Int × ByteArray × ByteArray)) : Prop := ∀ j (hj : j + 1 < l.length), l[j + 1].1 = l[j].1 + 1
def LastOk (bs : List ByteArray) (f t : ByteArray) (n : Nat) (l : List (Int × ByteArray × ByteArray)) : Prop := ∀ (hj : 0 < l.length), ∃ q : Nat, q < n ∧ l[l.length - 1].1 = q ∧ meetB f t (rgV bs q).1 (rgV bs q).2 = true ∧ ∀ j, q < j → j < n → ¬ meetB f t (rgV bs (j : Nat)).1 (rgV bs (j : Nat)).2 = true
theorem pt_next {bs : List ByteArray} (h : Good bs) {f t : ByteArray} : ∀ n, n + 1 ≤ bs.length → NextOk (ptV bs f t n) ∧ LastOk bs f t n (ptV bs f t n)
  | 0, _ => ⟨fun j hj => by simp [ptV] at hj, fun hj => by simp [ptV] at hj⟩
  | n + 1, hn => by
    obtain ⟨ih1, ih2⟩ := pt_next h (f := f) (t := t) n (by omega)
    have hs := ptV_succ (bs := bs) (f := f) (t := t) (n := n)
    by_cases hm : meetB f t (rgV bs n).1 (rgV bs n).2 = true
    · rw [if_pos hm] at hs
      rw [hs]
      generalize ptV bs f t n = l at ih1 ih2 ⊢
      refine ⟨fun j hj => ?_, fun hj => ⟨n, by omega, ?_, hm, fun j h1 h2 => by omega⟩⟩
      · simp only [List.length_append, List.length_cons, List.length_nil] at hj
        rcases Nat.lt_or_ge (j + 1) l.length with h3 | h3
        · rw [List.getElem_append_left h3, List.getElem_append_left (by omega)]; exact ih1 j h3
        · have hjl : j + 1 = l.length := by omega
          rw [List.getElem_append_right h3, List.getElem_append_left (by omega)]
          obtain ⟨q, hq1, hq2, hq3, hq4⟩ := ih2 (by omega)
          have hqn : q + 1 = n := by
            rcases Nat.lt_or_ge (q + 1) n with h5 | h5
            · exact absurd (h.conv (i := q) (j := q + 1) (k := n) (by omega) h5 (by omega) hq3 hm) (hq4 (q + 1) (by omega) h5)
            · omega
          have e : l[j] = l[l.length - 1] := by congr 1; omega
          rw [e, hq2]
          have e2 : j + 1 - l.length = 0 := by omega
          simp only [e2, List.getElem_cons_zero]
          omega
      · simp
    · rw [if_neg hm, List.append_nil] at hs
      rw [hs]
      refine ⟨ih1, fun hj => ?_⟩
      obtain ⟨q, hq1, hq2, hq3, hq4⟩ := ih2 hj
      refine ⟨q, by omega, hq2, hq3, fun j h1 h2 => ?_⟩
      rcases Nat.lt_or_ge j n with h3 | h3
      · exact hq4 j h1 h3
      · obtain rfl : j = n := by omega
        exact hm
theorem Good.fd' {bs : List ByteArray} (h : Good bs) (k : ByteArray) : ∃ m : Nat, (∀ j, j + 1 < bs.length → (hasB (rgV bs (j : Nat)).1 (rgV bs (j : Nat)).2 k = true ↔ j = m)) ∧ (isKey k = true → fdV bs k = m ∧ m + 1 < bs.length) ∧ (m + 1 < bs.length → isKey k = true) := by
  by_cases hk : isKey k = true
  · obtain ⟨n, h1, h2, h3⟩ := h.fd hk
    exact ⟨n, h3, fun _ => ⟨h1, h2⟩, fun _ => hk⟩
  · refine ⟨bs.length, fun j hj => ?_, fun h => absurd h hk, fun h => by omega⟩
    rw [h.has hj]
    constructor
    · rintro ⟨h1, _⟩; exact absurd h1 hk
    · intro h; omega
def one (b : Prop) [Decidable b] : Int := if b then 1 else 0
theorem one_yes {b : Prop} [Decidable b] (h : b) : one b = 1 := if_pos h
theorem one_no {b : Prop} [Decidable b] (h : ¬ b) : one b = 0 := if_neg h
theorem one_le {b : Prop} [Decidable b] : 0 ≤ one b ∧ one b ≤ 1 := by unfold one; split <;> omega
theorem one_eq {b c : Prop} [Decidable b] [Decidable c] (h : b ↔ c) : one b = one c := by unfold one; simp [h]
theorem one_step {m i : Nat} (h : i = m) : one (m < i) + 1 = one (m < i + 1) := by rw [one_no (by omega), one_yes (by omega)]; rfl
theorem one_stay {m i : Nat} (h : ¬ i = m) : one (m < i) = one (m < i + 1) := one_eq (by omega)
theorem cnt_all {bs : List ByteArray} (h : Good bs) {f t k : ByteArray} {m : Nat} (hk : ∀ j, j + 1 < bs.length → (hasB (rgV bs (j : Nat)).1 (rgV bs (j : Nat)).2 k = true ↔ j = m)) (hm : m + 1 < bs.length → isKey k = true) (hm' : isKey k = true → m + 1 < bs.length) : (cntV (ptV bs f t (bs.length - 1)) k : Int) = one (hasB f t k = true) := by
  have hl := h.len
  rw [cnt_pt h hk _ (by omega)]
  by_cases hx : hasB f t k = true
  · have := hm' (has_iff.1 hx).2.1
    rw [if_pos ⟨hx, by omega⟩, one_yes hx]; rfl
  · rw [if_neg (fun z => hx z.1), one_no hx]; rfl
theorem pt_has {bs : List ByteArray} {f t k : ByteArray} {n m : Nat} (hk : ∀ j, j + 1 < bs.length → (hasB (rgV bs (j : Nat)).1 (rgV bs (j : Nat)).2 k = true ↔ j = m)) (hn : n + 1 ≤ bs.length) {i : Nat} {x : Int × ByteArray × ByteArray} (hi : i < (ptV bs f t n).length) (hx : (ptV bs f t n)[i] = x) (h : hasB x.2.1 x.2.2 k = true) : x.1 = m ∧ m + 1 < bs.length := by
  obtain ⟨q, h1, h2, h3, h4⟩ := pt_at (p := x) (by rw [← hx]; exact List.getElem_mem hi)
  rw [h4, clip_has h3, Bool.and_eq_true] at h
  have := (hk q (by omega)).1 h.2
  subst this
  exact ⟨h2, by omega⟩
def fitsB (l : List ByteArray) : Bool := decide (l.length ≤ 20) && l.all fun s => decide ((s.size : Int) ≤ 60)
theorem fits_bad {l : List ByteArray} {i : Nat} {x : ByteArray} (hi : i < l.length) (hx : l[i] = x) (h : i = 20 ∨ 60 < (x.size : Int)) : fitsB l = false := by
  subst hx
  unfold fitsB
  rcases h with h | h
  · simp; omega
  · rw [Bool.and_eq_false_iff, List.all_eq_false]
    exact .inr ⟨l[i], List.getElem_mem hi, by simpa using h⟩
theorem fits_good {l : List ByteArray} (h : l.length ≤ 20) (h2 : ∀ j (hj : j < l.length), (l[j].size : Int) ≤ 60) : fitsB l = true := by
  unfold fitsB
  simp only [Bool.and_eq_true, decide_eq_true_eq, List.all_eq_true]
  refine ⟨h, fun s hs => ?_⟩
  obtain ⟨j, hj, rfl⟩ := List.mem_iff_getElem.1 hs
  exact h2 j hj
theorem clip_size {f t f' t' : ByteArray} {B : Nat} (h1 : f.size ≤ B) (h2 : t.size ≤ B) (h3 : f'.size ≤ B) (h4 : t'.size ≤ B) : (clipR f t f' t').1.size ≤ B ∧ (clipR f t f' t').2.size ≤ B := by
  unfold clipR
  split
  · unfold clipV
    split
    · exact ⟨h1, h2⟩
    · split
      · exact ⟨h3, h4⟩
      · refine ⟨?_, ?_⟩
        · show (maxS f f').size ≤ B
          unfold maxS; split
          · exact h3
          · exact h1
        · show (minS t t').size ≤ B
          unfold minS; split
          · exact h2
          · exact h4
  · exact ⟨Nat.zero_le _, Nat.zero_le _⟩
theorem pt_size {bs : List ByteArray} {f t : ByteArray} {n i : Nat} {x : Int × ByteArray × ByteArray} (hb : ∀ b ∈ bs, b.size ≤ 140737488355327) (hf : f.size ≤ 9223372036854775807) (ht : t.size ≤ 9223372036854775807) (hi : i < (ptV bs f t n).length) (hx : (ptV bs f t n)[i] = x) : x.2.1.size ≤ 9223372036854775807 ∧ x.2.2.size ≤ 9223372036854775807 ∧ 0 ≤ x.1 ∧ x.1 < n := by
  obtain ⟨q, h1, h2, h3, h4⟩ := pt_at (p := x) (by rw [← hx]; exact List.getElem_mem hi)
  have := rgV_le hb (q : Int)
  rw [h4]
  have hc := clip_size (B := 9223372036854775807) hf ht (Nat.le_trans this.1 (by decide)) (Nat.le_trans this.2 (by decide))
  exact ⟨hc.1, hc.2, by omega, by omega⟩
theorem cnt_yes {l : List (Int × ByteArray × ByteArray)} {i : Nat} {x : Int × ByteArray × ByteArray} {k : ByteArray} (hi : i < l.length) (hx : l[i] = x) (h : hasB x.2.1 x.2.2 k = true) : (cntV (l.take i) k : Int) + 1 = (cntV (l.take (i + 1)) k : Int) := by
  rw [cnt_succ hi hx, if_pos h]; rfl
theorem cnt_no {l : List (Int × ByteArray × ByteArray)} {i : Nat} {x : Int × ByteArray × ByteArray} {k : ByteArray} (hi : i < l.length) (hx : l[i] = x) (h : hasB x.2.1 x.2.2 k = false) : (cntV (l.take i) k : Int) = (cntV (l.take (i + 1)) k : Int) := by
  rw [cnt_succ hi hx, h]; rfl
theorem cnt_le {l : List (Int × ByteArray × ByteArray)} {i : Nat} {k : ByteArray} : cntV (l.take i) k ≤ i := Nat.le_trans List.countP_le_length (by simp; omega)
theorem next_at {l : List (Int × ByteArray × ByteArray)} (h : NextOk l) {i j : Nat} {x y : Int × ByteArray × ByteArray} (hj : j + 1 = i) {hi : i < l.length} {hjl : j < l.length} (hx : l[i] = x) (hy : l[j] = y) : x.1 = y.1 + 1 := by
  subst hj; subst hx; subst hy; exact h j hi
def allV (bs : List ByteArray) (n : Nat) : List (Int × ByteArray × ByteArray) := (List.range n).map fun (i : Nat) => ((i : Int), rgV bs i)
theorem allV_len {bs : List ByteArray} {n : Nat} : (allV bs n).length = n := by simp [allV]
theorem allV_at {bs : List ByteArray} {n i : Nat} {x : Int × ByteArray × ByteArray} {hi : i < (allV bs n).length} (hx : (allV bs n)[i] = x) : x = ((i : Int), rgV bs i) := by
  subst hx; simp [allV]
theorem right_all : rightB (S [97]) (S [123]) = true := by decide +kernel
theorem all_meet {bs : List ByteArray} (h : Good bs) {i : Nat} (hi : i + 1 < bs.length) : meetB (S [97]) (S [123]) (rgV bs i).1 (rgV bs i).2 = true := by
  have hk := h.key i hi
  have hl := key_lo hk
  refine has_meet (k := bs.getD i (S [])) (has_iff.2 ⟨right_all, hk, .inr ⟨top_ne, hl.1, hl.2.1⟩⟩) ((h.has hi).2 ⟨hk, by grind, h.lt i hi⟩)
theorem all_clip {bs : List ByteArray} (h : Good bs) {i : Nat} (hi : i + 1 < bs.length) : clipR (S [97]) (S [123]) (rgV bs i).1 (rgV bs i).2 = rgV bs i := by
  have hm := all_meet h hi
  unfold clipR
  rw [if_pos hm]
  unfold clipV
  have hn := h.next hi
  have hl := key_lo (h.key i hi)
  rw [h.rg hi] at *
  rw [if_neg top_ne, if_neg hn.1]
  have h2 : bs.getD (i + 1) (S []) ≤ S [123] := by
    rcases hn.2 with h3 | h3
    · rw [h3]; grind
    · have := (key_lo h3).2.1; grind
  refine Prod.ext ?_ ?_
  · show maxS (S [97]) (bs.getD i (S [])) = bs.getD i (S [])
    unfold maxS; split <;> grind
  · show minS (S [123]) (bs.getD (i + 1) (S [])) = bs.getD (i + 1) (S [])
    unfold minS; split <;> grind
theorem pt_all {bs : List ByteArray} (h : Good bs) : ∀ n, n + 1 ≤ bs.length → ptV bs (S [97]) (S [123]) n = allV bs n
  | 0, _ => rfl
  | n + 1, hn => by
    rw [ptV_succ, pt_all h n (by omega), if_pos (all_meet h (by omega)), all_clip h (by omega)]
    simp [allV, List.range_succ]
theorem fd_split {sp : List ByteArray} (h : okB sp = true) {i : Nat} {y : ByteArray} (hi : i < sp.length) (hy : sp[i] = y) : isKey y = true ∧ fdV (bnds sp) y = (i : Int) + 1 ∧ (rgV (bnds sp) ((i : Int) + 1)).1 = y := by
  have hg := good_bnds h
  have hl := bnds_len (sp := sp)
  have hk := okB_key h hi hy
  have hb := bnds_at hi hy
  obtain ⟨n, h1, h2, h3⟩ := hg.fd hk
  have hlt := hg.lt (i + 1) (by omega)
  have := (h3 (i + 1) (by omega)).1 ((hg.has (by omega)).2 ⟨hk, by rw [hb]; grind, by rw [hb] at hlt; exact hlt⟩)
  have hr := hg.rg (j := i + 1) (by omega)
  refine ⟨hk, by omega, ?_⟩
  have e : ((i + 1 : Nat) : Int) = (i : Int) + 1 := by omega
  rw [e] at hr
  rw [hr]; exact hb
theorem parts_meet {bs : List ByteArray} {f t f2 t2 : ByteArray} {n m i k : Nat} {x y : Int × ByteArray × ByteArray} (hi : i < (ptV bs f t n).length) (hx : (ptV bs f t n)[i] = x) (hk : k < (ptV bs f2 t2 m).length) (hy : (ptV bs f2 t2 m)[k] = y) (h : meetB x.2.1 x.2.2 y.2.1 y.2.2 = true) : meetB f t f2 t2 = true := by
  obtain ⟨q, h1, h2, h3, h4⟩ := pt_at (p := x) (by rw [← hx]; exact List.getElem_mem hi)
  obtain ⟨r, g1, g2, g3, g4⟩ := pt_at (p := y) (by rw [← hy]; exact List.getElem_mem hk)
  obtain ⟨a, ha1, ha2⟩ := meet_has h
  rw [h4, clip_has h3, Bool.and_eq_true] at ha1
  rw [g4, clip_has g3, Bool.and_eq_true] at ha2
  exact has_meet ha1.1 ha2.1

set_option maxHeartbeats 4000000 in
set_option maxRecDepth 10000 in
theorem alive_spec {w : World}    :
    Meets Try.prog 9 [] w fun r w' => r = .bool true ∧ Gr w w' := by
  have HG := V.Fr.refl [] w
  refine V.enter (n := 48) Try.func9 rfl rfl (by decide) rfl ?_
  refine V.seq ?_
  refine V.region ?_
  refine V.run T_ok 1 rfl ?_
  refine V.nil ?_
  refine V.tN ?_
  refine V.seq ?_
  refine V.region ?_
  refine V.mkSlice T_ok zero9 rfl rfl sz9 rfl rfl rfl rfl rfl rfl ?_
  rintro k1 w4 s6 s7 G5 Fk2
  have z8 := V.Fr.size G5
  replace HG := HG.grow G5
  clear G5
  have F3 := V.rowOfS (xs := ([(V.S [102]), (V.S [109])] : List ByteArray)) Fk2 rfl rfl
  clear Fk2
  refine V.call (new_ok F3.sl (fun k hk => by have := hk.2; omega) (by first | assumption | decide +kernel) (by first | assumption | decide | (intro s hs; simp at hs; omega) | (intro s hs; simp at hs; subst hs; omega))) rfl rfl rfl ?_
  rintro _ w12 ⟨k9, rfl, ⟨h10l, h10u⟩, F11, G13⟩
  have z14 := V.Fr.size G13
  try replace F3 := F3.gr G13
  replace HG := HG.grow G13
  clear G13
  refine V.run T_ok 5 rfl ?_
  refine V.nil ?_
  refine V.tN ?_
  refine V.seq ?_
  refine V.seq ?_
  refine V.region ?_
  refine V.run T_ok 6 rfl ?_
  refine V.nil ?_
  refine V.tN ?_
  refine V.condN rfl (by rfl) ?_
  refine V.skip ?_
  refine V.tN ?_
  refine V.seq ?_
  refine V.region ?_
  refine V.run T_ok 1 rfl ?_
  refine V.call (find_spec (key := (V.S [103])) F11 (by first | omega | decide | (simp only [V.S_size, List.length_cons, List.length_nil]; omega))) rfl rfl rfl ?_
  rintro _ w15 ⟨rfl, G16⟩
  have z17 := V.Fr.size G16
  try replace F3 := F3.gr G16
  try replace F11 := F11.gr G16
  replace HG := HG.grow G16
  clear G16
  refine V.run T_ok 5 rfl ?_
  refine V.nil ?_
  refine V.tN ?_
  refine V.seq ?_
  refine V.region ?_
  refine V.run T_ok 1 rfl ?_
  refine V.mkStruct T_ok zero24 rfl rfl rfl rfl rfl ?_
  refine V.call (parts_spec (f := (V.S [98])) (t := (V.S [103])) F11 (by first | omega | decide | (simp only [V.S_size, List.length_cons, List.length_nil]; omega)) (by first | omega | decide | (simp only [V.S_size, List.length_cons, List.length_nil]; omega))) rfl rfl rfl ?_
  rintro _ w21 ⟨a18, c19, rfl, F20, G22⟩
  have z23 := V.Fr.size G22
  try replace F3 := F3.gr G22
  try replace F11 := F11.gr G22
  replace HG := HG.grow G22
  clear G22
  refine V.run T_ok 1 rfl ?_
  refine V.nil ?_
  refine V.tN ?_
  refine V.seq ?_
  have hr24 : ptV (bnds ([(V.S [102]), (V.S [109])] : List ByteArray)) (V.S [98]) (V.S [103]) ((bnds ([(V.S [102]), (V.S [109])] : List ByteArray)).length - 1) = ([(0, (V.S [98], V.S [102])), (1, (V.S [102], V.S [103]))] : List (Int × ByteArray × ByteArray)) := (by decide +kernel)
  rw [hr24] at F20 ⊢
  clear hr24
  refine V.region ?_
  refine V.run T_ok 2 rfl ?_
  refine V.splitT (j := 1) (t := 26) rfl rfl (by (first | rfl | decide +kernel)) ?_
  refine V.run T_ok 4 rfl ?_
  refine V.splitT (j := 5) (t := 30) rfl rfl (by (first | rfl | decide +kernel)) ?_
  refine V.run T_ok 1 rfl ?_
  refine V.yes rfl rfl rfl ?_
  refine V.call (len_spec F11) rfl rfl rfl ?_
  rintro _ w21_ ⟨rfl, rfl⟩
  refine V.run T_ok 3 rfl ?_
  refine V.splitT (j := 10) (t := 35) rfl rfl (by (first | rfl | decide +kernel)) ?_
  refine V.run T_ok 5 rfl ?_
  refine V.splitT (j := 15) (t := 40) rfl rfl (by (first | rfl | decide +kernel)) ?_
  refine V.run T_ok 1 rfl ?_
  refine V.yes rfl rfl rfl ?_
  refine V.elem T_ok F20.sl rfl rfl sz48 rfl rfl rfl rfl (by first | omega | (simp only [List.length_take, List.length_drop, List.length_append, List.length_cons, List.length_nil, List.length_replicate, List.length_set, V.length_data, V.S_size]; omega)) (by first | omega | (simp only [List.length_take, List.length_drop, List.length_append, List.length_cons, List.length_nil, List.length_replicate, List.length_set, V.length_data, V.S_size]; omega)) ?_
  rintro b26 o27 cs28 hx29 hb30 hR33 hA31
  obtain ⟨x32, hx32⟩ : ∃ z', ([(0, (V.S [98], V.S [102])), (1, (V.S [102], V.S [103]))] : List (Int × ByteArray × ByteArray))[(1 : Int).toNat] = z' := ⟨_, rfl⟩
  rw [hx32] at hR33
  obtain ⟨_, _, rfl, rfl, ⟨_, _, rfl, rfl, rfl⟩⟩ := hR33
  try simp only [Int.toNat_natCast] at hx32 hx29
  refine V.yes rfl rfl rfl ?_
  refine V.loadA T_ok (o0 := o27) (off := 0) hA31 rfl rfl rfl rfl rfl ?_
  refine V.yes rfl rfl rfl ?_
  refine V.mkStruct T_ok zero24 rfl rfl rfl rfl rfl ?_
  refine V.yes rfl rfl rfl ?_
  refine V.mkStruct T_ok zero48 rfl rfl rfl rfl rfl ?_
  refine V.yes rfl rfl rfl ?_
  refine V.step rfl rfl (V.eqA_run rfl rfl rfl eqG48 (eqS48 _)) ?_
  refine V.run T_ok 2 rfl ?_
  refine V.nil ?_
  refine V.tN ?_
  refine V.ret ?_
  refine V.done rfl ?_
  subst_vars; exact ⟨by first | rfl | decide +kernel, HG⟩


theorem okB_kk {key : ByteArray} : okB ([key, key] : List ByteArray) = false := by
  cases h : okB [key, key] with
  | false => rfl
  | true =>
    have := (okB_at h (j := 1) (x := key) (y := key) (by simp) rfl (by simp [bnds]) rfl).2
    grind

set_option maxHeartbeats 4000000 in
set_option maxRecDepth 10000 in
theorem directoryNil_walk {w : World}  {key : ByteArray}  :
    Meets Try.prog 5 [.string key] w fun r w' => r = .bool true ∧ Gr w w' := by
  have hkk := okB_kk (key := key)
  have HG := V.Fr.refl [] w
  refine V.enter (n := 68) Try.func5 rfl rfl (by decide) rfl ?_
  refine V.seq ?_
  refine V.region ?_
  refine V.run T_ok 1 rfl ?_
  refine V.nil ?_
  refine V.tN ?_
  refine V.seq ?_
  refine V.seq ?_
  refine V.region ?_
  refine V.run T_ok 3 rfl ?_
  refine V.nil ?_
  refine V.tN ?_
  refine V.condT rfl (fun h1 => ?_) (fun h1 => ?_)
  ·
    try simp only [decide_eq_true_eq, decide_eq_false_iff_not, Bool.or_eq_true, Bool.and_eq_true, Bool.or_eq_false_iff, Bool.and_eq_false_iff, Bool.not_eq_true', Bool.not_eq_false', Int.not_lt, Int.not_le, Decidable.not_not, V.u8eq, V.S_inj, V.S_lit, V.S_lit2, V.bl] at h1
    try simp only [V.mk0, V.mk1, V.mk2, V.mk3] at h1
    refine V.seq ?_
    refine V.region ?_
    refine V.call (alive_spec) rfl rfl rfl ?_
    rintro _ w1 ⟨rfl, G2⟩
    have z3 := V.Fr.size G2
    replace HG := HG.grow G2
    clear G2
    refine V.run T_ok 1 rfl ?_
    refine V.nil ?_
    refine V.tN ?_
    refine V.ret ?_
    refine V.tR ?_
    refine V.done rfl ?_
    exact ⟨by first | rfl | decide +kernel, HG⟩
  ·
    try simp only [decide_eq_true_eq, decide_eq_false_iff_not, Bool.or_eq_true, Bool.and_eq_true, Bool.or_eq_false_iff, Bool.and_eq_false_iff, Bool.not_eq_true', Bool.not_eq_false', Int.not_lt, Int.not_le, Decidable.not_not, V.u8eq, V.S_inj, V.S_lit, V.S_lit2, V.bl] at h1
    try simp only [V.mk0, V.mk1, V.mk2, V.mk3] at h1
    refine V.skip ?_
    refine V.tN ?_
    refine V.seq ?_
    refine V.region ?_
    refine V.run T_ok 1 rfl ?_
    refine V.nil ?_
    refine V.tN ?_
    refine V.seq ?_
    refine V.region ?_
    refine V.run T_ok 1 rfl ?_
    refine V.call (range_nil (i := 0)) rfl rfl rfl ?_
    rintro _ w4 ⟨rfl, G5⟩
    have z6 := V.Fr.size G5
    replace HG := HG.grow G5
    clear G5
    refine V.run T_ok 3 rfl ?_
    refine V.alloc zero24 rfl rfl rfl ?_
    rintro k7 w9 s11 s12 G10 Fk8
    have z13 := V.Fr.size G10
    replace HG := HG.grow G10
    clear G10
    try simp only [V.cellsL, V.spliceL] at Fk8
    refine V.storeO Fk8 rfl rfl rfl rfl sz24 rfl rfl rfl rfl ?_
    rintro w14 G15 z17 Fs16
    clear Fk8
    have z18 := V.Fr.size G15
    replace HG := HG.new1 G15 (by first | (refine Or.inr ?_; omega) | (refine Or.inl ?_; simp; done))
    clear G15
    have Fk8 := Fs16; clear Fs16
    simp only [V.spliceL, V.cellsL] at Fk8
    refine V.run T_ok 1 rfl ?_
    refine V.nil ?_
    refine V.tN ?_
    refine V.seq ?_
    refine V.region ?_
    refine V.run T_ok 2 rfl ?_
    refine V.call (find_nil (key := key) (by first | omega | decide | (simp only [V.S_size, List.length_cons, List.length_nil]; omega))) rfl rfl rfl ?_
    rintro _ w19 ⟨rfl, G20⟩
    have z21 := V.Fr.size G20
    try replace Fk8 := Fk8.gr G20
    replace HG := HG.grow G20
    clear G20
    refine V.run T_ok 5 rfl ?_
    refine V.nil ?_
    refine V.tN ?_
    refine V.seq ?_
    refine V.region ?_
    refine V.run T_ok 2 rfl ?_
    refine V.mkSlice T_ok zero9 rfl rfl sz9 rfl rfl rfl rfl rfl rfl ?_
    rintro k22 w25 s27 s28 G26 Fk23
    have z29 := V.Fr.size G26
    try replace Fk8 := Fk8.gr G26
    replace HG := HG.grow G26
    clear G26
    have F24 := V.rowOfS (xs := ([key, key] : List ByteArray)) Fk23 rfl rfl
    clear Fk23
    refine V.call (new_no F24.sl (fun k hk => by have := hk.2; omega) (by first | assumption | decide +kernel) (by first | assumption | decide | (intro s hs; simp at hs; omega) | (intro s hs; simp at hs; subst hs; omega))) rfl rfl rfl ?_
    rintro _ w30 ⟨rfl, G31⟩
    have z32 := V.Fr.size G31
    try replace Fk8 := Fk8.gr G31
    try replace F24 := F24.gr G31
    replace HG := HG.grow G31
    clear G31
    refine V.run T_ok 5 rfl ?_
    refine V.nil ?_
    refine V.tN ?_
    refine V.seq ?_
    refine V.region ?_
    refine V.mkSlice T_ok zero9 rfl rfl sz9 rfl rfl rfl rfl rfl rfl ?_
    rintro k33 w36 s38 s39 G37 Fk34
    have z40 := V.Fr.size G37
    try replace Fk8 := Fk8.gr G37
    try replace F24 := F24.gr G37
    replace HG := HG.grow G37
    clear G37
    have F35 := V.rowOfS (xs := ([(V.S [98]), (V.S [99]), (V.S [100]), (V.S [101])] : List ByteArray)) Fk34 rfl rfl
    clear Fk34
    refine V.call (new_no F35.sl (fun k hk => by have := hk.2; omega) (by first | assumption | decide +kernel) (by first | assumption | decide | (intro s hs; simp at hs; omega) | (intro s hs; simp at hs; subst hs; omega))) rfl rfl rfl ?_
    rintro _ w41 ⟨rfl, G42⟩
    have z43 := V.Fr.size G42
    try replace Fk8 := Fk8.gr G42
    try replace F24 := F24.gr G42
    try replace F35 := F35.gr G42
    replace HG := HG.grow G42
    clear G42
    refine V.run T_ok 5 rfl ?_
    refine V.nil ?_
    refine V.tN ?_
    refine V.seq ?_
    refine V.region ?_
    refine V.call (alive_spec) rfl rfl rfl ?_
    rintro _ w44 ⟨rfl, G45⟩
    have z46 := V.Fr.size G45
    try replace Fk8 := Fk8.gr G45
    try replace F24 := F24.gr G45
    try replace F35 := F35.gr G45
    replace HG := HG.grow G45
    clear G45
    refine V.run T_ok 2 rfl ?_
    refine V.yes rfl rfl rfl ?_
    refine V.call (len_nil) rfl rfl rfl ?_
    rintro _ w44_ ⟨rfl, rfl⟩
    refine V.run T_ok 12 rfl ?_
    refine V.yes rfl rfl rfl ?_
    refine V.mkStruct T_ok zero24 rfl rfl rfl rfl rfl ?_
    refine V.yes rfl rfl rfl ?_
    refine V.call (parts_nil (f := (V.S [97])) (t := (V.S [123])) (by first | omega | decide | (simp only [V.S_size, List.length_cons, List.length_nil]; omega)) (by first | omega | decide | (simp only [V.S_size, List.length_cons, List.length_nil]; omega))) rfl rfl rfl ?_
    rintro _ w48 ⟨rfl, G49⟩
    have z50 := V.Fr.size G49
    try replace Fk8 := Fk8.gr G49
    try replace F24 := F24.gr G49
    try replace F35 := F35.gr G49
    replace HG := HG.grow G49
    clear G49
    refine V.run T_ok 8 rfl ?_
    refine V.splitT (j := 25) (t := 64) rfl rfl (by (first | rfl | decide +kernel)) ?_
    refine V.run T_ok 4 rfl ?_
    refine V.nil ?_
    refine V.tN ?_
    refine V.ret ?_
    refine V.done rfl ?_
    exact ⟨by first | rfl | decide +kernel, HG⟩

set_option maxHeartbeats 4000000 in
set_option maxRecDepth 10000 in
theorem Fits_spec {w : World}  {f : ByteArray} {t : ByteArray}  :
    Meets Try.prog 8 [.agg #[.string f, .string t]] w fun r w' => r = .bool (decide ((f.size : Int) ≤ 200) && decide ((t.size : Int) ≤ 200)) ∧ Gr w w' := by
  have HG := V.Fr.refl [] w
  refine V.enter (n := 13) Try.func8 rfl rfl (by decide) rfl ?_
  refine V.seq ?_
  refine V.region ?_
  refine V.box rfl rfl rfl rfl ?_
  rintro k1 w3 s5 s6 G4 Fk2
  have z7 := V.Fr.size G4
  replace HG := HG.grow G4
  clear G4
  try simp only [V.cellsL, V.spliceL] at Fk2
  refine V.run T_ok 1 rfl ?_
  refine V.nil ?_
  refine V.tN ?_
  refine V.seq ?_
  refine V.region ?_
  refine V.run T_ok 1 rfl ?_
  refine V.loadO T_ok Fk2 rfl rfl rfl rfl rfl ?_
  refine V.run T_ok 3 rfl ?_
  refine V.split (j := 4) (t := 7) rfl rfl (fun g1_4 => ?_) (fun g1_4 => ?_)
  ·
    try simp only [decide_eq_true_eq, decide_eq_false_iff_not, Bool.or_eq_true, Bool.and_eq_true, Bool.or_eq_false_iff, Bool.and_eq_false_iff, Bool.not_eq_true', Bool.not_eq_false', Int.not_lt, Int.not_le, Decidable.not_not, V.u8eq, V.S_inj, V.S_lit, V.S_lit2, V.bl] at g1_4
    try simp only [V.mk0, V.mk1, V.mk2, V.mk3] at g1_4
    refine V.run T_ok 1 rfl ?_
    refine V.yes rfl rfl rfl ?_
    refine V.loadO T_ok Fk2 rfl rfl rfl rfl rfl ?_
    refine V.run T_ok 4 rfl ?_
    refine V.nil ?_
    refine V.tN ?_
    refine V.ret ?_
    refine V.done rfl ?_
    exact ⟨congrArg Value.bool (by grind), HG⟩
  ·
    try simp only [decide_eq_true_eq, decide_eq_false_iff_not, Bool.or_eq_true, Bool.and_eq_true, Bool.or_eq_false_iff, Bool.and_eq_false_iff, Bool.not_eq_true', Bool.not_eq_false', Int.not_lt, Int.not_le, Decidable.not_not, V.u8eq, V.S_inj, V.S_lit, V.S_lit2, V.bl] at g1_4
    try simp only [V.mk0, V.mk1, V.mk2, V.mk3] at g1_4
    refine V.run T_ok 6 rfl ?_
    refine V.nil ?_
    refine V.tN ?_
    refine V.ret ?_
    refine V.done rfl ?_
    exact ⟨congrArg Value.bool (by grind), HG⟩

set_option maxHeartbeats 4000000 in
set_option maxRecDepth 10000 in
theorem fits_spec {w : World}  {D_l : Nat → Prop} {c_l : Nat} {a_l : Option Addr} {l : List ByteArray} (F_l : Sl V.Cod.str w D_l a_l c_l l)  :
    Meets Try.prog 7 [.slice a_l l.length c_l] w fun r w' => r = .bool (fitsB l) ∧ w = w' := by
  refine V.enter (n := 20) Try.func7 rfl rfl (by decide) rfl ?_
  refine V.seq ?_
  refine V.region ?_
  refine V.run T_ok 1 rfl ?_
  refine V.nil ?_
  refine V.tN ?_
  refine V.seq ?_
  refine V.seq ?_
  refine V.region ?_
  refine V.run T_ok 1 rfl ?_
  refine V.nil ?_
  refine V.tN ?_
  refine V.block ?_
  have hl63 := F_l.len63
  refine V.loopM (fun m e v2 => w = v2 ∧ ∃ (i : Nat) , m = l.length - i ∧ i ≤ l.length ∧ i ≤ 20 ∧ (∀ j (hj : j < l.length), j < i → (l[j].size : Int) ≤ 60) ∧ e 0 = .slice a_l l.length c_l ∧ e 3 = .int .i64 (i : Int)) ?_ ?_
  ·
    exact ⟨_, rfl, (0), rfl, (by omega), (by omega), (fun j hj h => absurd h (Nat.not_lt_zero _)), rfl, rfl⟩
  rintro _ e v2 ⟨rfl, i, rfl, hi, hi20, hno, he0_0, he0_3⟩
  refine V.knownC (t := 0) he0_0 ?_
  refine V.knownC (t := 3) he0_3 ?_
  refine V.seq ?_
  refine V.seq ?_
  refine V.region ?_
  refine V.run T_ok 4 rfl ?_
  refine V.nil ?_
  refine V.tN ?_
  refine V.condT rfl (fun h2 => ?_) (fun h2 => ?_)
  ·
    try simp only [decide_eq_true_eq, decide_eq_false_iff_not, Bool.or_eq_true, Bool.and_eq_true, Bool.or_eq_false_iff, Bool.and_eq_false_iff, Bool.not_eq_true', Bool.not_eq_false', Int.not_lt, Int.not_le, Decidable.not_not, V.u8eq, V.S_inj, V.S_lit, V.S_lit2, V.bl] at h2
    try simp only [V.mk0, V.mk1, V.mk2, V.mk3] at h2
    refine V.skip ?_
    refine V.tN ?_
    refine V.seq ?_
    refine V.block ?_
    refine V.seq ?_
    refine V.region ?_
    refine V.run T_ok 3 rfl ?_
    refine V.split (j := 2) (t := 12) rfl rfl (fun g4_2 => ?_) (fun g4_2 => ?_)
    ·
      try simp only [decide_eq_true_eq, decide_eq_false_iff_not, Bool.or_eq_true, Bool.and_eq_true, Bool.or_eq_false_iff, Bool.and_eq_false_iff, Bool.not_eq_true', Bool.not_eq_false', Int.not_lt, Int.not_le, Decidable.not_not, V.u8eq, V.S_inj, V.S_lit, V.S_lit2, V.bl] at g4_2
      try simp only [V.mk0, V.mk1, V.mk2, V.mk3] at g4_2
      refine V.run T_ok 7 rfl ?_
      refine V.nil ?_
      refine V.tN ?_
      refine V.condY rfl rfl ?_
      refine V.seq ?_
      refine V.region ?_
      refine V.run T_ok 1 rfl ?_
      refine V.nil ?_
      refine V.tN ?_
      refine V.ret ?_
      refine V.bR ?_
      refine V.tR ?_
      refine V.tR ?_
      refine V.bR ?_
      refine V.tR ?_
      refine V.done rfl ?_
      exact ⟨congrArg Value.bool (fits_bad (i := i) (by omega) rfl (by omega)).symm, rfl⟩
    ·
      try simp only [decide_eq_true_eq, decide_eq_false_iff_not, Bool.or_eq_true, Bool.and_eq_true, Bool.or_eq_false_iff, Bool.and_eq_false_iff, Bool.not_eq_true', Bool.not_eq_false', Int.not_lt, Int.not_le, Decidable.not_not, V.u8eq, V.S_inj, V.S_lit, V.S_lit2, V.bl] at g4_2
      try simp only [V.mk0, V.mk1, V.mk2, V.mk3] at g4_2
      refine V.run T_ok 2 rfl ?_
      refine V.yes rfl rfl rfl ?_
      refine V.elem T_ok F_l rfl rfl sz9 rfl rfl rfl rfl (by first | omega | (simp only [List.length_take, List.length_drop, List.length_append, List.length_cons, List.length_nil, List.length_replicate, List.length_set, V.length_data, V.S_size]; omega)) (by first | omega | (simp only [List.length_take, List.length_drop, List.length_append, List.length_cons, List.length_nil, List.length_replicate, List.length_set, V.length_data, V.S_size]; omega)) ?_
      rintro b3 o4 cs5 hx6 hb7 hR10 hA8
      obtain ⟨x9, hx9⟩ : ∃ z', l[((i : Int)).toNat] = z' := ⟨_, rfl⟩
      rw [hx9] at hR10
      obtain rfl := hR10
      try simp only [Int.toNat_natCast] at hx9 hx6
      refine V.yes rfl rfl rfl ?_
      refine V.loadA T_ok (o0 := o4) (off := 0) hA8 rfl rfl rfl rfl rfl ?_
      refine V.run T_ok 3 rfl ?_
      refine V.nil ?_
      refine V.tN ?_
      refine V.condT rfl (fun h4 => ?_) (fun h4 => ?_)
      ·
        try simp only [decide_eq_true_eq, decide_eq_false_iff_not, Bool.or_eq_true, Bool.and_eq_true, Bool.or_eq_false_iff, Bool.and_eq_false_iff, Bool.not_eq_true', Bool.not_eq_false', Int.not_lt, Int.not_le, Decidable.not_not, V.u8eq, V.S_inj, V.S_lit, V.S_lit2, V.bl] at h4
        try simp only [V.mk0, V.mk1, V.mk2, V.mk3] at h4
        refine V.seq ?_
        refine V.region ?_
        refine V.run T_ok 1 rfl ?_
        refine V.nil ?_
        refine V.tN ?_
        refine V.ret ?_
        refine V.bR ?_
        refine V.tR ?_
        refine V.tR ?_
        refine V.bR ?_
        refine V.tR ?_
        refine V.done rfl ?_
        exact ⟨congrArg Value.bool (fits_bad (i := i) (by omega) hx9 (by omega)).symm, rfl⟩
      ·
        try simp only [decide_eq_true_eq, decide_eq_false_iff_not, Bool.or_eq_true, Bool.and_eq_true, Bool.or_eq_false_iff, Bool.and_eq_false_iff, Bool.not_eq_true', Bool.not_eq_false', Int.not_lt, Int.not_le, Decidable.not_not, V.u8eq, V.S_inj, V.S_lit, V.S_lit2, V.bl] at h4
        try simp only [V.mk0, V.mk1, V.mk2, V.mk3] at h4
        refine V.skip ?_
        refine V.bN ?_
        refine V.tN ?_
        refine V.region ?_
        refine V.run T_ok 1 rfl ?_
        refine V.addN rfl rfl rfl rfl rfl (by first | omega | (simp only [List.length_take, List.length_drop, List.length_append, List.length_cons, List.length_nil, List.length_replicate, List.length_set, V.length_data, V.S_size]; omega)) (by first | omega | (simp only [List.length_take, List.length_drop, List.length_append, List.length_cons, List.length_nil, List.length_replicate, List.length_set, V.length_data, V.S_size]; omega)) ?_
        refine V.run T_ok 1 rfl ?_
        refine V.nil ?_
        refine V.tN ?_
        exact ⟨_, (by omega), rfl, (i + 1), rfl, (by omega), (by omega), (fun j hj h => by rcases Nat.lt_or_ge j i with h2 | h2; exact hno j hj h2; obtain rfl : j = i := (by omega); subst_vars; omega), rfl, rfl⟩
  ·
    try simp only [decide_eq_true_eq, decide_eq_false_iff_not, Bool.or_eq_true, Bool.and_eq_true, Bool.or_eq_false_iff, Bool.and_eq_false_iff, Bool.not_eq_true', Bool.not_eq_false', Int.not_lt, Int.not_le, Decidable.not_not, V.u8eq, V.S_inj, V.S_lit, V.S_lit2, V.bl] at h2
    try simp only [V.mk0, V.mk1, V.mk2, V.mk3] at h2
    refine V.exit ?_
    refine V.tX ?_
    refine V.tX ?_
    refine V.bE ?_
    refine V.tN ?_
    refine V.seq ?_
    refine V.region ?_
    refine V.run T_ok 1 rfl ?_
    refine V.nil ?_
    refine V.tN ?_
    refine V.ret ?_
    refine V.done rfl ?_
    exact ⟨congrArg Value.bool (fits_good (by omega) fun j hj => hno j hj (by omega)).symm, rfl⟩

set_option maxHeartbeats 4000000 in
set_option maxRecDepth 10000 in
theorem directoryOnce_no {w : World}  {D_splits : Nat → Prop} {c_splits : Nat} {a_splits : Option Addr} {splits : List ByteArray} (F_splits : Sl V.Cod.str w D_splits a_splits c_splits splits) (hD_splits : ∀ k, D_splits k → k < w.heap.size) {key : ByteArray} {f : ByteArray} {t : ByteArray} (hok : okB splits = false) (hs : ∀ s ∈ splits, s.size ≤ 9223372036854775807) (hk : key.size ≤ 9223372036854775807) (hf : f.size ≤ 9223372036854775807) (ht : t.size ≤ 9223372036854775807) :
    Meets Try.prog 4 [.slice a_splits splits.length c_splits, .string key, .agg #[.string f, .string t]] w fun r w' => r = .bool true ∧ Gr w w' := by
  have HG := V.Fr.refl [] w
  refine V.enter (n := 147) Try.func4 rfl rfl (by decide) rfl ?_
  refine V.seq ?_
  refine V.region ?_
  refine V.box rfl rfl rfl rfl ?_
  rintro k1 w3 s5 s6 G4 Fk2
  have z7 := V.Fr.size G4
  try replace F_splits := F_splits.gr G4
  replace HG := HG.grow G4
  clear G4
  try simp only [V.cellsL, V.spliceL] at Fk2
  refine V.run T_ok 1 rfl ?_
  refine V.nil ?_
  refine V.tN ?_
  refine V.seq ?_
  refine V.region ?_
  refine V.run T_ok 1 rfl ?_
  refine V.call (fits_spec F_splits) rfl rfl rfl ?_
  rintro _ w3_ ⟨rfl, rfl⟩
  refine V.run T_ok 1 rfl ?_
  refine V.nil ?_
  refine V.tN ?_
  refine V.seq ?_
  refine V.region ?_
  refine V.loadO T_ok Fk2 rfl rfl rfl rfl rfl ?_
  refine V.call (Fits_spec (f := f) (t := t)) rfl rfl rfl ?_
  rintro _ w9 ⟨rfl, G10⟩
  have z11 := V.Fr.size G10
  try replace F_splits := F_splits.gr G10
  try replace Fk2 := Fk2.gr G10
  replace HG := HG.grow G10
  clear G10
  refine V.run T_ok 1 rfl ?_
  refine V.nil ?_
  refine V.tN ?_
  refine V.seq ?_
  refine V.region ?_
  refine V.run T_ok 1 rfl ?_
  refine V.call (new_no F_splits (fun k hk => by have := hD_splits k hk; omega) (by first | assumption | decide +kernel) (by first | assumption | decide | (intro s hs; simp at hs; omega) | (intro s hs; simp at hs; subst hs; omega))) rfl rfl rfl ?_
  rintro _ w12 ⟨rfl, G13⟩
  have z14 := V.Fr.size G13
  try replace F_splits := F_splits.gr G13
  try replace Fk2 := Fk2.gr G13
  replace HG := HG.grow G13
  clear G13
  refine V.run T_ok 5 rfl ?_
  refine V.nil ?_
  refine V.tN ?_
  refine V.seq ?_
  refine V.seq ?_
  refine V.region ?_
  refine V.run T_ok 3 rfl ?_
  refine V.orG T_ok 2 2 31 rfl rfl rfl rfl rfl rfl rfl rfl ?_
  refine V.run T_ok 1 rfl ?_
  refine V.orG T_ok 3 6 35 rfl rfl rfl rfl rfl rfl rfl rfl ?_
  refine V.run T_ok 1 rfl ?_
  refine V.orG T_ok 2 11 40 rfl rfl rfl rfl rfl rfl rfl rfl ?_
  refine V.run T_ok 1 rfl ?_
  refine V.splitT (j := 15) (t := 44) rfl rfl (by (first | rfl | (unfold eNew; split <;> simp))) ?_
  refine V.run T_ok 3 rfl ?_
  refine V.nil ?_
  refine V.tN ?_
  refine V.condY rfl (by (first | rfl | (unfold eNew; split <;> simp))) ?_
  refine V.seq ?_
  refine V.region ?_
  refine V.call (alive_spec) rfl rfl rfl ?_
  rintro _ w15 ⟨rfl, G16⟩
  have z17 := V.Fr.size G16
  try replace F_splits := F_splits.gr G16
  try replace Fk2 := Fk2.gr G16
  replace HG := HG.grow G16
  clear G16
  refine V.run T_ok 1 rfl ?_
  refine V.nil ?_
  refine V.tN ?_
  refine V.ret ?_
  refine V.tR ?_
  refine V.done rfl ?_
  exact ⟨(by first | rfl | simp only [List.length_set]), HG⟩

set_option maxHeartbeats 4000000 in
set_option maxRecDepth 10000 in
theorem directoryOnce_ok {w : World}  {D_splits : Nat → Prop} {c_splits : Nat} {a_splits : Option Addr} {splits : List ByteArray} (F_splits : Sl V.Cod.str w D_splits a_splits c_splits splits) (hD_splits : ∀ k, D_splits k → k < w.heap.size) {key : ByteArray} {f : ByteArray} {t : ByteArray} (hok : okB splits = true) (hs : ∀ s ∈ splits, s.size ≤ 9223372036854775807) (hk : key.size ≤ 9223372036854775807) (hf : f.size ≤ 9223372036854775807) (ht : t.size ≤ 9223372036854775807) :
    Meets Try.prog 4 [.slice a_splits splits.length c_splits, .string key, .agg #[.string f, .string t]] w fun r w' => r = .bool true ∧ Gr w w' := by
  have HG := V.Fr.refl [] w
  refine V.enter (n := 147) Try.func4 rfl rfl (by decide) rfl ?_
  refine V.seq ?_
  refine V.region ?_
  refine V.box rfl rfl rfl rfl ?_
  rintro k1 w3 s5 s6 G4 Fk2
  have z7 := V.Fr.size G4
  try replace F_splits := F_splits.gr G4
  replace HG := HG.grow G4
  clear G4
  try simp only [V.cellsL, V.spliceL] at Fk2
  refine V.run T_ok 1 rfl ?_
  refine V.nil ?_
  refine V.tN ?_
  refine V.seq ?_
  refine V.region ?_
  refine V.run T_ok 1 rfl ?_
  refine V.call (fits_spec F_splits) rfl rfl rfl ?_
  rintro _ w3_ ⟨rfl, rfl⟩
  refine V.run T_ok 1 rfl ?_
  refine V.nil ?_
  refine V.tN ?_
  refine V.seq ?_
  refine V.region ?_
  refine V.loadO T_ok Fk2 rfl rfl rfl rfl rfl ?_
  refine V.call (Fits_spec (f := f) (t := t)) rfl rfl rfl ?_
  rintro _ w9 ⟨rfl, G10⟩
  have z11 := V.Fr.size G10
  try replace F_splits := F_splits.gr G10
  try replace Fk2 := Fk2.gr G10
  replace HG := HG.grow G10
  clear G10
  refine V.run T_ok 1 rfl ?_
  refine V.nil ?_
  refine V.tN ?_
  refine V.seq ?_
  refine V.region ?_
  refine V.run T_ok 1 rfl ?_
  refine V.call (new_ok F_splits (fun k hk => by have := hD_splits k hk; omega) (by first | assumption | decide +kernel) (by first | assumption | decide | (intro s hs; simp at hs; omega) | (intro s hs; simp at hs; subst hs; omega))) rfl rfl rfl ?_
  rintro _ w15 ⟨k12, rfl, ⟨h13l, h13u⟩, F14, G16⟩
  have z17 := V.Fr.size G16
  try replace F_splits := F_splits.gr G16
  try replace Fk2 := Fk2.gr G16
  replace HG := HG.grow G16
  clear G16
  refine V.run T_ok 5 rfl ?_
  refine V.nil ?_
  refine V.tN ?_
  refine V.seq ?_
  refine V.seq ?_
  refine V.region ?_
  refine V.run T_ok 3 rfl ?_
  refine V.orG T_ok 2 2 31 rfl rfl rfl rfl rfl rfl rfl rfl ?_
  refine V.run T_ok 1 rfl ?_
  refine V.orG T_ok 3 6 35 rfl rfl rfl rfl rfl rfl rfl rfl ?_
  refine V.run T_ok 1 rfl ?_
  refine V.orG T_ok 2 11 40 rfl rfl rfl rfl rfl rfl rfl rfl ?_
  refine V.run T_ok 1 rfl ?_
  refine V.orG T_ok 2 15 44 rfl rfl rfl rfl rfl rfl rfl rfl ?_
  refine V.nil ?_
  refine V.tN ?_
  refine V.condT rfl (fun h4 => ?_) (fun h4 => ?_)
  ·
    try simp only [decide_eq_true_eq, decide_eq_false_iff_not, Bool.or_eq_true, Bool.and_eq_true, Bool.or_eq_false_iff, Bool.and_eq_false_iff, Bool.not_eq_true', Bool.not_eq_false', Int.not_lt, Int.not_le, Decidable.not_not, V.u8eq, V.S_inj, V.S_lit, V.S_lit2, V.bl] at h4
    try simp only [V.mk0, V.mk1, V.mk2, V.mk3] at h4
    refine V.seq ?_
    refine V.region ?_
    refine V.call (alive_spec) rfl rfl rfl ?_
    rintro _ w18 ⟨rfl, G19⟩
    have z20 := V.Fr.size G19
    try replace F_splits := F_splits.gr G19
    try replace Fk2 := Fk2.gr G19
    try replace F14 := F14.gr G19
    replace HG := HG.grow G19
    clear G19
    refine V.run T_ok 1 rfl ?_
    refine V.nil ?_
    refine V.tN ?_
    refine V.ret ?_
    refine V.tR ?_
    refine V.done rfl ?_
    exact ⟨(by first | rfl | simp only [List.length_set]), HG⟩
  ·
    try simp only [decide_eq_true_eq, decide_eq_false_iff_not, Bool.or_eq_true, Bool.and_eq_true, Bool.or_eq_false_iff, Bool.and_eq_false_iff, Bool.not_eq_true', Bool.not_eq_false', Int.not_lt, Int.not_le, Decidable.not_not, V.u8eq, V.S_inj, V.S_lit, V.S_lit2, V.bl] at h4
    try simp only [V.mk0, V.mk1, V.mk2, V.mk3] at h4
    refine V.skip ?_
    refine V.tN ?_
    refine V.seq ?_
    refine V.region ?_
    refine V.run T_ok 2 rfl ?_
    have hg := good_bnds hok
    obtain ⟨mm, hm1, hm2, hm3⟩ := hg.fd' key
    have hbl := bnds_len (sp := splits)
    have hl4 := okB_len hok
    refine V.call (find_spec (key := key) F14 (by first | omega | decide | (simp only [V.S_size, List.length_cons, List.length_nil]; omega))) rfl rfl rfl ?_
    rintro _ w21 ⟨rfl, G22⟩
    have z23 := V.Fr.size G22
    try replace F_splits := F_splits.gr G22
    try replace Fk2 := Fk2.gr G22
    try replace F14 := F14.gr G22
    replace HG := HG.grow G22
    clear G22
    refine V.run T_ok 5 rfl ?_
    refine V.nil ?_
    refine V.tN ?_
    refine V.seq ?_
    refine V.seq ?_
    refine V.region ?_
    refine V.run T_ok 2 rfl ?_
    refine V.call (rkey_spec (s := key) (by first | omega | decide | (simp only [V.S_size, List.length_cons, List.length_nil]; omega))) rfl rfl rfl ?_
    rintro _ w21_ ⟨rfl, rfl⟩
    refine V.run T_ok 1 rfl ?_
    refine V.nil ?_
    refine V.tN ?_
    refine V.condN rfl (by (simp)) ?_
    refine V.skip ?_
    refine V.tN ?_
    refine V.seq ?_
    refine V.region ?_
    refine V.run T_ok 1 rfl ?_
    refine V.nil ?_
    refine V.tN ?_
    refine V.seq ?_
    refine V.seq ?_
    refine V.region ?_
    refine V.run T_ok 1 rfl ?_
    refine V.nil ?_
    refine V.tN ?_
    refine V.block ?_
    refine V.loopM (fun m e v26 => Fr [] w v26 ∧ w21.heap.size ≤ v26.heap.size ∧ Sl V.Cod.str v26 D_splits a_splits c_splits splits ∧ Cells v26 k1 [.string f, .string t] 24 ∧ Dir v26 k12 (fun j => w9.heap.size ≤ j ∧ j < w15.heap.size) (bnds splits) ∧ ∃ (i : Nat) , m = (bnds splits).length - i ∧ i + 1 ≤ (bnds splits).length ∧ e 1 = .string key ∧ e 5 = .pointer (some ⟨k1, 0, none⟩) ∧ e 9 = .pointer (some ⟨k12, 0, none⟩) ∧ e 11 = .int .i64 (fdV (bnds splits) key) ∧ e 12 = .bool (isKey key) ∧ e 13 = .int .i64 (one (mm < i)) ∧ e 14 = .int .i64 (i : Int)) ?_ ?_
    ·
      exact ⟨_, HG, (by omega), F_splits, Fk2, F14, (0), rfl, (by omega), rfl, rfl, rfl, rfl, rfl, (congrArg (Value.int .i64) (one_no (by omega)).symm), rfl⟩
    clear HG F_splits Fk2 F14
    rintro _ e v26 ⟨HG, z27, F_splits, Fk2, F14, i, rfl, hi, he0_1, he0_5, he0_9, he0_11, he0_12, he0_13, he0_14⟩
    have hone := one_le (b := mm < i)
    refine V.knownC (t := 1) he0_1 ?_
    refine V.knownC (t := 5) he0_5 ?_
    refine V.knownC (t := 9) he0_9 ?_
    refine V.knownC (t := 11) he0_11 ?_
    refine V.knownC (t := 12) he0_12 ?_
    refine V.knownC (t := 13) he0_13 ?_
    refine V.knownC (t := 14) he0_14 ?_
    refine V.seq ?_
    refine V.seq ?_
    refine V.region ?_
    refine V.run T_ok 2 rfl ?_
    refine V.call (len_spec F14) rfl rfl rfl ?_
    rintro _ v26_ ⟨rfl, rfl⟩
    refine V.run T_ok 1 rfl ?_
    refine V.nil ?_
    refine V.tN ?_
    refine V.condT rfl (fun h11 => ?_) (fun h11 => ?_)
    ·
      try simp only [decide_eq_true_eq, decide_eq_false_iff_not, Bool.or_eq_true, Bool.and_eq_true, Bool.or_eq_false_iff, Bool.and_eq_false_iff, Bool.not_eq_true', Bool.not_eq_false', Int.not_lt, Int.not_le, Decidable.not_not, V.u8eq, V.S_inj, V.S_lit, V.S_lit2, V.bl] at h11
      try simp only [V.mk0, V.mk1, V.mk2, V.mk3] at h11
      refine V.skip ?_
      refine V.tN ?_
      refine V.seq ?_
      refine V.block ?_
      refine V.seq ?_
      refine V.region ?_
      refine V.run T_ok 2 rfl ?_
      refine V.call (range_spec (i := (i : Int)) F14) rfl rfl rfl ?_
      rintro _ w29 ⟨rfl, G30⟩
      have z31 := V.Fr.size G30
      try replace F_splits := F_splits.gr G30
      try replace Fk2 := Fk2.gr G30
      try replace F14 := F14.gr G30
      replace HG := HG.grow G30
      clear G30
      refine V.run T_ok 3 rfl ?_
      refine V.alloc zero24 rfl rfl rfl ?_
      rintro k32 w34 s36 s37 G35 Fk33
      have z38 := V.Fr.size G35
      try replace F_splits := F_splits.gr G35
      try replace Fk2 := Fk2.gr G35
      try replace F14 := F14.gr G35
      replace HG := HG.grow G35
      clear G35
      try simp only [V.cellsL, V.spliceL] at Fk33
      refine V.storeO Fk33 rfl rfl rfl rfl sz24 rfl rfl rfl rfl ?_
      rintro w39 G40 z42 Fs41
      clear Fk33
      have z43 := V.Fr.size G40
      first | replace F_splits := F_splits.mv1 G40 (by first | exact (fun h => by have := hD_splits _ h; omega) | omega) | clear F_splits | skip
      first | replace Fk2 := Fk2.mv1 G40 (by omega) | clear Fk2 | skip
      first | replace F14 := F14.mv1 G40 (by first | exact ⟨by omega, by assumption⟩ | exact ⟨by omega, fun h => absurd h.1 (by assumption)⟩ | exact ⟨by omega, fun h => absurd h.1.1 (by assumption)⟩ | exact ⟨by omega, fun h => by first | (have h2 := h.1; have h3 := h.2; omega) | (have h2 := h; dsimp only at h2; omega)⟩ | first | omega | exact fun h => h | exact ⟨by omega, fun h => h⟩ | (intro h; first | (have := hD_splits _ h; omega)) | (refine ⟨by omega, ?_⟩; intro h; first | (have := hD_splits _ h; omega))) | clear F14 | skip
      replace HG := HG.new1 G40 (by first | (refine Or.inr ?_; omega) | (refine Or.inl ?_; simp; done))
      clear G40
      have Fk33 := Fs41; clear Fs41
      simp only [V.spliceL, V.cellsL] at Fk33
      refine V.run T_ok 1 rfl ?_
      refine V.nil ?_
      refine V.tN ?_
      refine V.seq ?_
      refine V.region ?_
      have hrgi := rgV_le (bnds_ok hok).2.2 (i : Int)
      refine V.loadO T_ok Fk33 rfl rfl rfl rfl rfl ?_
      refine V.run T_ok 1 rfl ?_
      refine V.call (has_spec (f := ((rgV (bnds splits) (i : Int)).1)) (t := ((rgV (bnds splits) (i : Int)).2)) (k := key) (by first | omega | decide | (simp only [V.S_size, List.length_cons, List.length_nil]; omega)) (by first | omega | decide | (simp only [V.S_size, List.length_cons, List.length_nil]; omega)) (by first | omega | decide | (simp only [V.S_size, List.length_cons, List.length_nil]; omega))) rfl rfl rfl ?_
      rintro _ w44 ⟨rfl, G45⟩
      have z46 := V.Fr.size G45
      try replace F_splits := F_splits.gr G45
      try replace Fk2 := Fk2.gr G45
      try replace F14 := F14.gr G45
      try replace Fk33 := Fk33.gr G45
      replace HG := HG.grow G45
      clear G45
      refine V.nil ?_
      refine V.tN ?_
      refine V.condT rfl (fun h14 => ?_) (fun h14 => ?_)
      ·
        try simp only [decide_eq_true_eq, decide_eq_false_iff_not, Bool.or_eq_true, Bool.and_eq_true, Bool.or_eq_false_iff, Bool.and_eq_false_iff, Bool.not_eq_true', Bool.not_eq_false', Int.not_lt, Int.not_le, Decidable.not_not, V.u8eq, V.S_inj, V.S_lit, V.S_lit2, V.bl] at h14
        try simp only [V.mk0, V.mk1, V.mk2, V.mk3] at h14
        refine V.seq ?_
        refine V.region ?_
        refine V.run T_ok 1 rfl ?_
        refine V.addN rfl rfl rfl rfl rfl (by first | omega | (simp only [List.length_take, List.length_drop, List.length_append, List.length_cons, List.length_nil, List.length_replicate, List.length_set, V.length_data, V.S_size]; omega)) (by first | omega | (simp only [List.length_take, List.length_drop, List.length_append, List.length_cons, List.length_nil, List.length_replicate, List.length_set, V.length_data, V.S_size]; omega)) ?_
        refine V.run T_ok 1 rfl ?_
        refine V.nil ?_
        refine V.tN ?_
        refine V.seq ?_
        refine V.region ?_
        refine V.run T_ok 3 rfl ?_
        refine V.nil ?_
        refine V.tN ?_
        refine V.condN rfl (by (refine decide_eq_false (fun z => z ?_); have z1 := (hm1 i (by omega)).1 (by assumption); have z2 := hm2 (hm3 (by omega)); omega)) ?_
        refine V.skip ?_
        refine V.bN ?_
        refine V.tN ?_
        refine V.region ?_
        refine V.run T_ok 1 rfl ?_
        refine V.addN rfl rfl rfl rfl rfl (by first | omega | (simp only [List.length_take, List.length_drop, List.length_append, List.length_cons, List.length_nil, List.length_replicate, List.length_set, V.length_data, V.S_size]; omega)) (by first | omega | (simp only [List.length_take, List.length_drop, List.length_append, List.length_cons, List.length_nil, List.length_replicate, List.length_set, V.length_data, V.S_size]; omega)) ?_
        refine V.run T_ok 1 rfl ?_
        refine V.nil ?_
        refine V.tN ?_
        exact ⟨_, (by omega), HG, (by omega), F_splits, Fk2, F14, (i + 1), rfl, (by omega), rfl, rfl, rfl, rfl, rfl, (congrArg (Value.int .i64) (by first | exact one_step ((hm1 i (by omega)).1 (by assumption)) | exact one_stay (fun z => Bool.noConfusion (h14.symm.trans ((hm1 i (by omega)).2 z))))), rfl⟩
      ·
        try simp only [decide_eq_true_eq, decide_eq_false_iff_not, Bool.or_eq_true, Bool.and_eq_true, Bool.or_eq_false_iff, Bool.and_eq_false_iff, Bool.not_eq_true', Bool.not_eq_false', Int.not_lt, Int.not_le, Decidable.not_not, V.u8eq, V.S_inj, V.S_lit, V.S_lit2, V.bl] at h14
        try simp only [V.mk0, V.mk1, V.mk2, V.mk3] at h14
        refine V.skip ?_
        refine V.bN ?_
        refine V.tN ?_
        refine V.region ?_
        refine V.run T_ok 1 rfl ?_
        refine V.addN rfl rfl rfl rfl rfl (by first | omega | (simp only [List.length_take, List.length_drop, List.length_append, List.length_cons, List.length_nil, List.length_replicate, List.length_set, V.length_data, V.S_size]; omega)) (by first | omega | (simp only [List.length_take, List.length_drop, List.length_append, List.length_cons, List.length_nil, List.length_replicate, List.length_set, V.length_data, V.S_size]; omega)) ?_
        refine V.run T_ok 1 rfl ?_
        refine V.nil ?_
        refine V.tN ?_
        exact ⟨_, (by omega), HG, (by omega), F_splits, Fk2, F14, (i + 1), rfl, (by omega), rfl, rfl, rfl, rfl, rfl, (congrArg (Value.int .i64) (by first | exact one_step ((hm1 i (by omega)).1 (by assumption)) | exact one_stay (fun z => Bool.noConfusion (h14.symm.trans ((hm1 i (by omega)).2 z))))), rfl⟩
    ·
      try simp only [decide_eq_true_eq, decide_eq_false_iff_not, Bool.or_eq_true, Bool.and_eq_true, Bool.or_eq_false_iff, Bool.and_eq_false_iff, Bool.not_eq_true', Bool.not_eq_false', Int.not_lt, Int.not_le, Decidable.not_not, V.u8eq, V.S_inj, V.S_lit, V.S_lit2, V.bl] at h11
      try simp only [V.mk0, V.mk1, V.mk2, V.mk3] at h11
      refine V.exit ?_
      refine V.tX ?_
      refine V.tX ?_
      refine V.bE ?_
      refine V.tN ?_
      refine V.seq ?_
      refine V.seq ?_
      have hon : one (mm < i) = one (isKey key = true) := one_eq ⟨fun h => hm3 (by omega), fun h => by have := (hm2 h).2; omega⟩
      refine V.region ?_
      refine V.run T_ok 2 rfl ?_
      refine V.andG T_ok 2 1 80 rfl rfl rfl rfl rfl rfl rfl rfl ?_
      refine V.run T_ok 1 rfl ?_
      refine V.splitF (j := 5) (t := 84) rfl rfl (by (rw [hon]; cases hkk : isKey key <;> simp [one])) ?_
      refine V.run T_ok 3 rfl ?_
      refine V.split (j := 8) (t := 87) rfl rfl (fun g18_8 => ?_) (fun g18_8 => ?_)
      ·
        try simp only [decide_eq_true_eq, decide_eq_false_iff_not, Bool.or_eq_true, Bool.and_eq_true, Bool.or_eq_false_iff, Bool.and_eq_false_iff, Bool.not_eq_true', Bool.not_eq_false', Int.not_lt, Int.not_le, Decidable.not_not, V.u8eq, V.S_inj, V.S_lit, V.S_lit2, V.bl] at g18_8
        try simp only [V.mk0, V.mk1, V.mk2, V.mk3] at g18_8
        refine V.run T_ok 4 rfl ?_
        refine V.nil ?_
        refine V.tN ?_
        refine V.condN rfl (by (first | rfl | exact decide_eq_false (fun z => z (hon.trans (one_no (by simp [g18_8])))))) ?_
        refine V.skip ?_
        refine V.tN ?_
        refine V.seq ?_
        refine V.region ?_
        refine V.run T_ok 1 rfl ?_
        refine V.loadO T_ok Fk2 rfl rfl rfl rfl rfl ?_
        refine V.call (parts_spec (f := f) (t := t) F14 (by first | omega | decide | (simp only [V.S_size, List.length_cons, List.length_nil]; omega)) (by first | omega | decide | (simp only [V.S_size, List.length_cons, List.length_nil]; omega))) rfl rfl rfl ?_
        rintro _ w50 ⟨a47, c48, rfl, F49, G51⟩
        have z52 := V.Fr.size G51
        try replace F_splits := F_splits.gr G51
        try replace Fk2 := Fk2.gr G51
        try replace F14 := F14.gr G51
        replace HG := HG.grow G51
        clear G51
        refine V.run T_ok 1 rfl ?_
        refine V.nil ?_
        refine V.tN ?_
        refine V.seq ?_
        refine V.region ?_
        refine V.run T_ok 1 rfl ?_
        refine V.nil ?_
        refine V.tN ?_
        refine V.seq ?_
        refine V.seq ?_
        refine V.region ?_
        refine V.run T_ok 1 rfl ?_
        refine V.nil ?_
        refine V.tN ?_
        refine V.block ?_
        refine V.loopM (fun m e v54 => Fr [] w v54 ∧ w50.heap.size ≤ v54.heap.size ∧ Sl V.Cod.str v54 D_splits a_splits c_splits splits ∧ Cells v54 k1 [.string f, .string t] 24 ∧ Dir v54 k12 (fun j => w9.heap.size ≤ j ∧ j < w15.heap.size) (bnds splits) ∧ V.Row (V.Cod.pair (V.Cod.int .i64) (V.Cod.pair V.Cod.str V.Cod.str)) 48 v54 V.None' v26.heap.size w50.heap.size a47 c48 (ptV (bnds splits) f t ((bnds splits).length - 1)) ∧ ∃ (i : Nat) , m = (ptV (bnds splits) f t ((bnds splits).length - 1)).length - i ∧ i ≤ (ptV (bnds splits) f t ((bnds splits).length - 1)).length ∧ e 1 = .string key ∧ e 5 = .pointer (some ⟨k1, 0, none⟩) ∧ e 11 = .int .i64 (fdV (bnds splits) key) ∧ e 17 = .slice a47 (ptV (bnds splits) f t ((bnds splits).length - 1)).length c48 ∧ e 18 = .int .i64 (cntV ((ptV (bnds splits) f t ((bnds splits).length - 1)).take i) key : Int) ∧ e 19 = .int .i64 (i : Int)) ?_ ?_
        ·
          exact ⟨_, HG, (by omega), F_splits, Fk2, F14, F49, (0), rfl, (by omega), rfl, rfl, rfl, rfl, rfl, rfl⟩
        clear HG F_splits Fk2 F14 F49
        rintro _ e v54 ⟨HG, z55, F_splits, Fk2, F14, F49, i, rfl, hi2, he1_1, he1_5, he1_11, he1_17, he1_18, he1_19⟩
        have hcl := cnt_le (l := ptV (bnds splits) f t ((bnds splits).length - 1)) (i := i) (k := key)
        have hpl := ptV_len (bs := bnds splits) (f := f) (t := t) (n := (bnds splits).length - 1)
        refine V.knownC (t := 1) he1_1 ?_
        refine V.knownC (t := 5) he1_5 ?_
        refine V.knownC (t := 11) he1_11 ?_
        refine V.knownC (t := 17) he1_17 ?_
        refine V.knownC (t := 18) he1_18 ?_
        refine V.knownC (t := 19) he1_19 ?_
        refine V.seq ?_
        refine V.seq ?_
        refine V.region ?_
        refine V.run T_ok 4 rfl ?_
        refine V.nil ?_
        refine V.tN ?_
        refine V.condT rfl (fun h23 => ?_) (fun h23 => ?_)
        ·
          try simp only [decide_eq_true_eq, decide_eq_false_iff_not, Bool.or_eq_true, Bool.and_eq_true, Bool.or_eq_false_iff, Bool.and_eq_false_iff, Bool.not_eq_true', Bool.not_eq_false', Int.not_lt, Int.not_le, Decidable.not_not, V.u8eq, V.S_inj, V.S_lit, V.S_lit2, V.bl] at h23
          try simp only [V.mk0, V.mk1, V.mk2, V.mk3] at h23
          refine V.skip ?_
          refine V.tN ?_
          refine V.seq ?_
          refine V.block ?_
          refine V.seq ?_
          refine V.seq ?_
          refine V.region ?_
          refine V.run T_ok 2 rfl ?_
          refine V.elem T_ok F49.sl rfl rfl sz48 rfl rfl rfl rfl (by first | omega | (simp only [List.length_take, List.length_drop, List.length_append, List.length_cons, List.length_nil, List.length_replicate, List.length_set, V.length_data, V.S_size]; omega)) (by first | omega | (simp only [List.length_take, List.length_drop, List.length_append, List.length_cons, List.length_nil, List.length_replicate, List.length_set, V.length_data, V.S_size]; omega)) ?_
          rintro b56 o57 cs58 hx59 hb60 hR63 hA61
          obtain ⟨x62, hx62⟩ : ∃ z', (ptV (bnds splits) f t ((bnds splits).length - 1))[((i : Int)).toNat] = z' := ⟨_, rfl⟩
          rw [hx62] at hR63
          obtain ⟨_, _, rfl, rfl, ⟨_, _, rfl, rfl, rfl⟩⟩ := hR63
          try simp only [Int.toNat_natCast] at hx62 hx59
          refine V.run T_ok 1 rfl ?_
          have hps := pt_size (bnds_ok hok).2.2 hf ht (by omega) hx62
          refine V.loadA T_ok (o0 := o57) (off := 1) hA61 rfl rfl rfl rfl rfl ?_
          refine V.run T_ok 1 rfl ?_
          refine V.call (has_spec (f := x62.2.1) (t := x62.2.2) (k := key) (by first | omega | decide | (simp only [V.S_size, List.length_cons, List.length_nil]; omega)) (by first | omega | decide | (simp only [V.S_size, List.length_cons, List.length_nil]; omega)) (by first | omega | decide | (simp only [V.S_size, List.length_cons, List.length_nil]; omega))) rfl rfl rfl ?_
          rintro _ w64 ⟨rfl, G65⟩
          have z66 := V.Fr.size G65
          try replace F_splits := F_splits.gr G65
          try replace Fk2 := Fk2.gr G65
          try replace F14 := F14.gr G65
          try replace F49 := F49.gr G65
          replace HG := HG.grow G65
          clear G65
          refine V.nil ?_
          refine V.tN ?_
          refine V.condT rfl (fun h25 => ?_) (fun h25 => ?_)
          ·
            try simp only [decide_eq_true_eq, decide_eq_false_iff_not, Bool.or_eq_true, Bool.and_eq_true, Bool.or_eq_false_iff, Bool.and_eq_false_iff, Bool.not_eq_true', Bool.not_eq_false', Int.not_lt, Int.not_le, Decidable.not_not, V.u8eq, V.S_inj, V.S_lit, V.S_lit2, V.bl] at h25
            try simp only [V.mk0, V.mk1, V.mk2, V.mk3] at h25
            refine V.seq ?_
            refine V.region ?_
            refine V.run T_ok 1 rfl ?_
            refine V.addN rfl rfl rfl rfl rfl (by first | omega | (simp only [List.length_take, List.length_drop, List.length_append, List.length_cons, List.length_nil, List.length_replicate, List.length_set, V.length_data, V.S_size]; omega)) (by first | omega | (simp only [List.length_take, List.length_drop, List.length_append, List.length_cons, List.length_nil, List.length_replicate, List.length_set, V.length_data, V.S_size]; omega)) ?_
            refine V.run T_ok 1 rfl ?_
            refine V.nil ?_
            refine V.tN ?_
            refine V.seq ?_
            refine V.region ?_
            refine V.run T_ok 2 rfl ?_
            refine V.elem T_ok F49.sl rfl rfl sz48 rfl rfl rfl rfl (by first | omega | (simp only [List.length_take, List.length_drop, List.length_append, List.length_cons, List.length_nil, List.length_replicate, List.length_set, V.length_data, V.S_size]; omega)) (by first | omega | (simp only [List.length_take, List.length_drop, List.length_append, List.length_cons, List.length_nil, List.length_replicate, List.length_set, V.length_data, V.S_size]; omega)) ?_
            rintro b67 o68 cs69 hx70 hb71 hR74 hA72
            obtain ⟨x73, hx73⟩ : ∃ z', (ptV (bnds splits) f t ((bnds splits).length - 1))[((i : Int)).toNat] = z' := ⟨_, rfl⟩
            rw [hx73] at hR74
            obtain ⟨_, _, rfl, rfl, ⟨_, _, rfl, rfl, rfl⟩⟩ := hR74
            try simp only [Int.toNat_natCast] at hx73 hx70
            obtain rfl : x62 = x73 := hx62.symm.trans hx73
            refine V.run T_ok 1 rfl ?_
            refine V.loadA T_ok (o0 := o68) (off := 0) hA72 rfl rfl rfl rfl rfl ?_
            refine V.run T_ok 2 rfl ?_
            refine V.nil ?_
            refine V.tN ?_
            refine V.condN rfl (by (refine decide_eq_false (fun z => z ?_); have z1 := pt_has (f := f) (t := t) (n := (bnds splits).length - 1) (i := i) hm1 (by omega) (by assumption) (by assumption) (by assumption); have z2 := hm2 (hm3 z1.2); omega)) ?_
            refine V.skip ?_
            refine V.tN ?_
            refine V.seq ?_
            refine V.drawQ mixed (by kernel_rfl) ?_
            refine V.qrun T_ok 3 rfl ?_
            refine V.qsplit (j := 2) (t := 119) rfl rfl (fun g29_2 => ?_) (fun g29_2 => ?_)
            ·
              try simp only [decide_eq_true_eq, decide_eq_false_iff_not, Bool.or_eq_true, Bool.and_eq_true, Bool.or_eq_false_iff, Bool.and_eq_false_iff, Bool.not_eq_true', Bool.not_eq_false', Int.not_lt, Int.not_le, Decidable.not_not, V.u8eq, V.S_inj, V.S_lit, V.S_lit2, V.bl] at g29_2
              try simp only [V.mk0, V.mk1, V.mk2, V.mk3] at g29_2
              refine V.qrun T_ok 2 rfl ?_
              refine V.qyes rfl rfl rfl ?_
              refine V.qelem T_ok F49.sl rfl rfl sz48 rfl rfl rfl rfl (by first | omega | (simp only [List.length_take, List.length_drop, List.length_append, List.length_cons, List.length_nil, List.length_replicate, List.length_set, V.length_data, V.S_size]; omega)) (by first | omega | (simp only [List.length_take, List.length_drop, List.length_append, List.length_cons, List.length_nil, List.length_replicate, List.length_set, V.length_data, V.S_size]; omega)) ?_
              rintro b75 o76 cs77 hx78 hb79 hR82 hA80
              obtain ⟨x81, hx81⟩ : ∃ z', (ptV (bnds splits) f t ((bnds splits).length - 1))[((i : Int)).toNat] = z' := ⟨_, rfl⟩
              rw [hx81] at hR82
              obtain ⟨_, _, rfl, rfl, ⟨_, _, rfl, rfl, rfl⟩⟩ := hR82
              try simp only [Int.toNat_natCast] at hx81 hx78
              obtain rfl : x62 = x81 := hx62.symm.trans hx81
              refine V.qrun T_ok 1 rfl ?_
              refine V.qyes rfl rfl rfl ?_
              refine V.qloadA T_ok (o0 := o76) (off := 0) hA80 rfl rfl rfl rfl rfl ?_
              refine V.qrun T_ok 2 rfl ?_
              refine V.qyes rfl rfl rfl ?_
              refine V.qsubN rfl rfl rfl rfl rfl (by first | omega | (simp only [List.length_take, List.length_drop, List.length_append, List.length_cons, List.length_nil, List.length_replicate, List.length_set, V.length_data, V.S_size]; omega)) (by first | omega | (simp only [List.length_take, List.length_drop, List.length_append, List.length_cons, List.length_nil, List.length_replicate, List.length_set, V.length_data, V.S_size]; omega)) ?_
              refine V.qyes rfl rfl rfl ?_
              refine V.qelem T_ok F49.sl rfl rfl sz48 rfl rfl rfl rfl (by first | omega | (simp only [List.length_take, List.length_drop, List.length_append, List.length_cons, List.length_nil, List.length_replicate, List.length_set, V.length_data, V.S_size]; omega)) (by first | omega | (simp only [List.length_take, List.length_drop, List.length_append, List.length_cons, List.length_nil, List.length_replicate, List.length_set, V.length_data, V.S_size]; omega)) ?_
              rintro b83 o84 cs85 hx86 hb87 hR90 hA88
              obtain ⟨x89, hx89⟩ : ∃ z', (ptV (bnds splits) f t ((bnds splits).length - 1))[((i : Int) - 1).toNat] = z' := ⟨_, rfl⟩
              rw [hx89] at hR90
              obtain ⟨_, _, rfl, rfl, ⟨_, _, rfl, rfl, rfl⟩⟩ := hR90
              try simp only [Int.toNat_natCast] at hx89 hx86
              refine V.qrun T_ok 1 rfl ?_
              refine V.qyes rfl rfl rfl ?_
              refine V.qloadA T_ok (o0 := o84) (off := 0) hA88 rfl rfl rfl rfl rfl ?_
              refine V.qyes rfl rfl rfl ?_
              have hqs := pt_size (bnds_ok hok).2.2 hf ht (by omega) hx89
              refine V.qaddN rfl rfl rfl rfl rfl (by first | omega | (simp only [List.length_take, List.length_drop, List.length_append, List.length_cons, List.length_nil, List.length_replicate, List.length_set, V.length_data, V.S_size]; omega)) (by first | omega | (simp only [List.length_take, List.length_drop, List.length_append, List.length_cons, List.length_nil, List.length_replicate, List.length_set, V.length_data, V.S_size]; omega)) ?_
              refine V.qrun T_ok 2 rfl ?_
              refine V.qnil ?_
              rintro w91 G92
              have z93 := V.Fr.size G92
              try replace F_splits := F_splits.gr G92
              try replace Fk2 := Fk2.gr G92
              try replace F14 := F14.gr G92
              try replace F49 := F49.gr G92
              replace HG := HG.grow G92
              clear G92
              refine V.tN ?_
              refine V.condN rfl (by (first | rfl | (refine decide_eq_false (fun z => z ?_); exact next_at (l := ptV (bnds splits) f t ((bnds splits).length - 1)) (pt_next hg (f := f) (t := t) _ (by omega)).1 (j := ((i : Int) - 1).toNat) (i := i) (by omega) (by assumption) (by assumption)))) ?_
              refine V.skip ?_
              refine V.bN ?_
              refine V.tN ?_
              refine V.region ?_
              refine V.run T_ok 1 rfl ?_
              refine V.addN rfl rfl rfl rfl rfl (by first | omega | (simp only [List.length_take, List.length_drop, List.length_append, List.length_cons, List.length_nil, List.length_replicate, List.length_set, V.length_data, V.S_size]; omega)) (by first | omega | (simp only [List.length_take, List.length_drop, List.length_append, List.length_cons, List.length_nil, List.length_replicate, List.length_set, V.length_data, V.S_size]; omega)) ?_
              refine V.run T_ok 1 rfl ?_
              refine V.nil ?_
              refine V.tN ?_
              exact ⟨_, (by omega), HG, (by omega), F_splits, Fk2, F14, F49, (i + 1), rfl, (by omega), rfl, rfl, rfl, rfl, (congrArg (Value.int .i64) (by first | exact cnt_yes (by omega) (by assumption) (by assumption) | exact cnt_no (by omega) (by assumption) (by assumption))), rfl⟩
            ·
              try simp only [decide_eq_true_eq, decide_eq_false_iff_not, Bool.or_eq_true, Bool.and_eq_true, Bool.or_eq_false_iff, Bool.and_eq_false_iff, Bool.not_eq_true', Bool.not_eq_false', Int.not_lt, Int.not_le, Decidable.not_not, V.u8eq, V.S_inj, V.S_lit, V.S_lit2, V.bl] at g29_2
              try simp only [V.mk0, V.mk1, V.mk2, V.mk3] at g29_2
              refine V.qrun T_ok 14 rfl ?_
              refine V.qnil ?_
              rintro w94 G95
              have z96 := V.Fr.size G95
              try replace F_splits := F_splits.gr G95
              try replace Fk2 := Fk2.gr G95
              try replace F14 := F14.gr G95
              try replace F49 := F49.gr G95
              replace HG := HG.grow G95
              clear G95
              refine V.tN ?_
              refine V.condN rfl (by (first | rfl | (refine decide_eq_false (fun z => z ?_); exact next_at (l := ptV (bnds splits) f t ((bnds splits).length - 1)) (pt_next hg (f := f) (t := t) _ (by omega)).1 (j := ((i : Int) - 1).toNat) (i := i) (by omega) (by assumption) (by assumption)))) ?_
              refine V.skip ?_
              refine V.bN ?_
              refine V.tN ?_
              refine V.region ?_
              refine V.run T_ok 1 rfl ?_
              refine V.addN rfl rfl rfl rfl rfl (by first | omega | (simp only [List.length_take, List.length_drop, List.length_append, List.length_cons, List.length_nil, List.length_replicate, List.length_set, V.length_data, V.S_size]; omega)) (by first | omega | (simp only [List.length_take, List.length_drop, List.length_append, List.length_cons, List.length_nil, List.length_replicate, List.length_set, V.length_data, V.S_size]; omega)) ?_
              refine V.run T_ok 1 rfl ?_
              refine V.nil ?_
              refine V.tN ?_
              exact ⟨_, (by omega), HG, (by omega), F_splits, Fk2, F14, F49, (i + 1), rfl, (by omega), rfl, rfl, rfl, rfl, (congrArg (Value.int .i64) (by first | exact cnt_yes (by omega) (by assumption) (by assumption) | exact cnt_no (by omega) (by assumption) (by assumption))), rfl⟩
          ·
            try simp only [decide_eq_true_eq, decide_eq_false_iff_not, Bool.or_eq_true, Bool.and_eq_true, Bool.or_eq_false_iff, Bool.and_eq_false_iff, Bool.not_eq_true', Bool.not_eq_false', Int.not_lt, Int.not_le, Decidable.not_not, V.u8eq, V.S_inj, V.S_lit, V.S_lit2, V.bl] at h25
            try simp only [V.mk0, V.mk1, V.mk2, V.mk3] at h25
            refine V.skip ?_
            refine V.tN ?_
            refine V.seq ?_
            refine V.drawQ mixed (by kernel_rfl) ?_
            refine V.qrun T_ok 3 rfl ?_
            refine V.qsplit (j := 2) (t := 119) rfl rfl (fun g29_2 => ?_) (fun g29_2 => ?_)
            ·
              try simp only [decide_eq_true_eq, decide_eq_false_iff_not, Bool.or_eq_true, Bool.and_eq_true, Bool.or_eq_false_iff, Bool.and_eq_false_iff, Bool.not_eq_true', Bool.not_eq_false', Int.not_lt, Int.not_le, Decidable.not_not, V.u8eq, V.S_inj, V.S_lit, V.S_lit2, V.bl] at g29_2
              try simp only [V.mk0, V.mk1, V.mk2, V.mk3] at g29_2
              refine V.qrun T_ok 2 rfl ?_
              refine V.qyes rfl rfl rfl ?_
              refine V.qelem T_ok F49.sl rfl rfl sz48 rfl rfl rfl rfl (by first | omega | (simp only [List.length_take, List.length_drop, List.length_append, List.length_cons, List.length_nil, List.length_replicate, List.length_set, V.length_data, V.S_size]; omega)) (by first | omega | (simp only [List.length_take, List.length_drop, List.length_append, List.length_cons, List.length_nil, List.length_replicate, List.length_set, V.length_data, V.S_size]; omega)) ?_
              rintro b97 o98 cs99 hx100 hb101 hR104 hA102
              obtain ⟨x103, hx103⟩ : ∃ z', (ptV (bnds splits) f t ((bnds splits).length - 1))[((i : Int)).toNat] = z' := ⟨_, rfl⟩
              rw [hx103] at hR104
              obtain ⟨_, _, rfl, rfl, ⟨_, _, rfl, rfl, rfl⟩⟩ := hR104
              try simp only [Int.toNat_natCast] at hx103 hx100
              obtain rfl : x62 = x103 := hx62.symm.trans hx103
              refine V.qrun T_ok 1 rfl ?_
              refine V.qyes rfl rfl rfl ?_
              refine V.qloadA T_ok (o0 := o98) (off := 0) hA102 rfl rfl rfl rfl rfl ?_
              refine V.qrun T_ok 2 rfl ?_
              refine V.qyes rfl rfl rfl ?_
              refine V.qsubN rfl rfl rfl rfl rfl (by first | omega | (simp only [List.length_take, List.length_drop, List.length_append, List.length_cons, List.length_nil, List.length_replicate, List.length_set, V.length_data, V.S_size]; omega)) (by first | omega | (simp only [List.length_take, List.length_drop, List.length_append, List.length_cons, List.length_nil, List.length_replicate, List.length_set, V.length_data, V.S_size]; omega)) ?_
              refine V.qyes rfl rfl rfl ?_
              refine V.qelem T_ok F49.sl rfl rfl sz48 rfl rfl rfl rfl (by first | omega | (simp only [List.length_take, List.length_drop, List.length_append, List.length_cons, List.length_nil, List.length_replicate, List.length_set, V.length_data, V.S_size]; omega)) (by first | omega | (simp only [List.length_take, List.length_drop, List.length_append, List.length_cons, List.length_nil, List.length_replicate, List.length_set, V.length_data, V.S_size]; omega)) ?_
              rintro b105 o106 cs107 hx108 hb109 hR112 hA110
              obtain ⟨x111, hx111⟩ : ∃ z', (ptV (bnds splits) f t ((bnds splits).length - 1))[((i : Int) - 1).toNat] = z' := ⟨_, rfl⟩
              rw [hx111] at hR112
              obtain ⟨_, _, rfl, rfl, ⟨_, _, rfl, rfl, rfl⟩⟩ := hR112
              try simp only [Int.toNat_natCast] at hx111 hx108
              refine V.qrun T_ok 1 rfl ?_
              refine V.qyes rfl rfl rfl ?_
              refine V.qloadA T_ok (o0 := o106) (off := 0) hA110 rfl rfl rfl rfl rfl ?_
              refine V.qyes rfl rfl rfl ?_
              have hqs := pt_size (bnds_ok hok).2.2 hf ht (by omega) hx111
              refine V.qaddN rfl rfl rfl rfl rfl (by first | omega | (simp only [List.length_take, List.length_drop, List.length_append, List.length_cons, List.length_nil, List.length_replicate, List.length_set, V.length_data, V.S_size]; omega)) (by first | omega | (simp only [List.length_take, List.length_drop, List.length_append, List.length_cons, List.length_nil, List.length_replicate, List.length_set, V.length_data, V.S_size]; omega)) ?_
              refine V.qrun T_ok 2 rfl ?_
              refine V.qnil ?_
              rintro w113 G114
              have z115 := V.Fr.size G114
              try replace F_splits := F_splits.gr G114
              try replace Fk2 := Fk2.gr G114
              try replace F14 := F14.gr G114
              try replace F49 := F49.gr G114
              replace HG := HG.grow G114
              clear G114
              refine V.tN ?_
              refine V.condN rfl (by (first | rfl | (refine decide_eq_false (fun z => z ?_); exact next_at (l := ptV (bnds splits) f t ((bnds splits).length - 1)) (pt_next hg (f := f) (t := t) _ (by omega)).1 (j := ((i : Int) - 1).toNat) (i := i) (by omega) (by assumption) (by assumption)))) ?_
              refine V.skip ?_
              refine V.bN ?_
              refine V.tN ?_
              refine V.region ?_
              refine V.run T_ok 1 rfl ?_
              refine V.addN rfl rfl rfl rfl rfl (by first | omega | (simp only [List.length_take, List.length_drop, List.length_append, List.length_cons, List.length_nil, List.length_replicate, List.length_set, V.length_data, V.S_size]; omega)) (by first | omega | (simp only [List.length_take, List.length_drop, List.length_append, List.length_cons, List.length_nil, List.length_replicate, List.length_set, V.length_data, V.S_size]; omega)) ?_
              refine V.run T_ok 1 rfl ?_
              refine V.nil ?_
              refine V.tN ?_
              exact ⟨_, (by omega), HG, (by omega), F_splits, Fk2, F14, F49, (i + 1), rfl, (by omega), rfl, rfl, rfl, rfl, (congrArg (Value.int .i64) (by first | exact cnt_yes (by omega) (by assumption) (by assumption) | exact cnt_no (by omega) (by assumption) (by assumption))), rfl⟩
            ·
              try simp only [decide_eq_true_eq, decide_eq_false_iff_not, Bool.or_eq_true, Bool.and_eq_true, Bool.or_eq_false_iff, Bool.and_eq_false_iff, Bool.not_eq_true', Bool.not_eq_false', Int.not_lt, Int.not_le, Decidable.not_not, V.u8eq, V.S_inj, V.S_lit, V.S_lit2, V.bl] at g29_2
              try simp only [V.mk0, V.mk1, V.mk2, V.mk3] at g29_2
              refine V.qrun T_ok 14 rfl ?_
              refine V.qnil ?_
              rintro w116 G117
              have z118 := V.Fr.size G117
              try replace F_splits := F_splits.gr G117
              try replace Fk2 := Fk2.gr G117
              try replace F14 := F14.gr G117
              try replace F49 := F49.gr G117
              replace HG := HG.grow G117
              clear G117
              refine V.tN ?_
              refine V.condN rfl (by (first | rfl | (refine decide_eq_false (fun z => z ?_); exact next_at (l := ptV (bnds splits) f t ((bnds splits).length - 1)) (pt_next hg (f := f) (t := t) _ (by omega)).1 (j := ((i : Int) - 1).toNat) (i := i) (by omega) (by assumption) (by assumption)))) ?_
              refine V.skip ?_
              refine V.bN ?_
              refine V.tN ?_
              refine V.region ?_
              refine V.run T_ok 1 rfl ?_
              refine V.addN rfl rfl rfl rfl rfl (by first | omega | (simp only [List.length_take, List.length_drop, List.length_append, List.length_cons, List.length_nil, List.length_replicate, List.length_set, V.length_data, V.S_size]; omega)) (by first | omega | (simp only [List.length_take, List.length_drop, List.length_append, List.length_cons, List.length_nil, List.length_replicate, List.length_set, V.length_data, V.S_size]; omega)) ?_
              refine V.run T_ok 1 rfl ?_
              refine V.nil ?_
              refine V.tN ?_
              exact ⟨_, (by omega), HG, (by omega), F_splits, Fk2, F14, F49, (i + 1), rfl, (by omega), rfl, rfl, rfl, rfl, (congrArg (Value.int .i64) (by first | exact cnt_yes (by omega) (by assumption) (by assumption) | exact cnt_no (by omega) (by assumption) (by assumption))), rfl⟩
        ·
          try simp only [decide_eq_true_eq, decide_eq_false_iff_not, Bool.or_eq_true, Bool.and_eq_true, Bool.or_eq_false_iff, Bool.and_eq_false_iff, Bool.not_eq_true', Bool.not_eq_false', Int.not_lt, Int.not_le, Decidable.not_not, V.u8eq, V.S_inj, V.S_lit, V.S_lit2, V.bl] at h23
          try simp only [V.mk0, V.mk1, V.mk2, V.mk3] at h23
          refine V.exit ?_
          refine V.tX ?_
          refine V.tX ?_
          refine V.bE ?_
          refine V.tN ?_
          refine V.seq ?_
          have hca := cnt_all hg (f := f) (t := t) hm1 hm3 (fun h => (hm2 h).2)
          have hti : (ptV (bnds splits) f t ((bnds splits).length - 1)).take i = ptV (bnds splits) f t ((bnds splits).length - 1) := List.take_of_length_le (by omega)
          refine V.region ?_
          refine V.call (alive_spec) rfl rfl rfl ?_
          rintro _ w119 ⟨rfl, G120⟩
          have z121 := V.Fr.size G120
          try replace F_splits := F_splits.gr G120
          try replace Fk2 := Fk2.gr G120
          try replace F14 := F14.gr G120
          try replace F49 := F49.gr G120
          replace HG := HG.grow G120
          clear G120
          refine V.run T_ok 5 rfl ?_
          refine V.splitT (j := 5) (t := 139) rfl rfl (by (rw [hti, hca]; exact decide_eq_true one_le.2)) ?_
          refine V.run T_ok 2 rfl ?_
          refine V.yes rfl rfl rfl ?_
          refine V.loadO T_ok Fk2 rfl rfl rfl rfl rfl ?_
          refine V.run T_ok 1 rfl ?_
          refine V.yes rfl rfl rfl ?_
          refine V.call (has_spec (f := f) (t := t) (k := key) (by first | omega | decide | (simp only [V.S_size, List.length_cons, List.length_nil]; omega)) (by first | omega | decide | (simp only [V.S_size, List.length_cons, List.length_nil]; omega)) (by first | omega | decide | (simp only [V.S_size, List.length_cons, List.length_nil]; omega))) rfl rfl rfl ?_
          rintro _ w122 ⟨rfl, G123⟩
          have z124 := V.Fr.size G123
          try replace F_splits := F_splits.gr G123
          try replace Fk2 := Fk2.gr G123
          try replace F14 := F14.gr G123
          try replace F49 := F49.gr G123
          replace HG := HG.grow G123
          clear G123
          refine V.run T_ok 3 rfl ?_
          refine V.nil ?_
          refine V.tN ?_
          refine V.ret ?_
          refine V.done rfl ?_
          exact ⟨congrArg Value.bool (by rw [hti, hca]; cases hasB f t key <;> rfl), HG⟩
      ·
        try simp only [decide_eq_true_eq, decide_eq_false_iff_not, Bool.or_eq_true, Bool.and_eq_true, Bool.or_eq_false_iff, Bool.and_eq_false_iff, Bool.not_eq_true', Bool.not_eq_false', Int.not_lt, Int.not_le, Decidable.not_not, V.u8eq, V.S_inj, V.S_lit, V.S_lit2, V.bl] at g18_8
        try simp only [V.mk0, V.mk1, V.mk2, V.mk3] at g18_8
        refine V.run T_ok 4 rfl ?_
        refine V.nil ?_
        refine V.tN ?_
        refine V.condN rfl (by (first | rfl | exact decide_eq_false (fun z => z (hon.trans (one_no (by simp [g18_8])))))) ?_
        refine V.skip ?_
        refine V.tN ?_
        refine V.seq ?_
        refine V.region ?_
        refine V.run T_ok 1 rfl ?_
        refine V.loadO T_ok Fk2 rfl rfl rfl rfl rfl ?_
        refine V.call (parts_spec (f := f) (t := t) F14 (by first | omega | decide | (simp only [V.S_size, List.length_cons, List.length_nil]; omega)) (by first | omega | decide | (simp only [V.S_size, List.length_cons, List.length_nil]; omega))) rfl rfl rfl ?_
        rintro _ w128 ⟨a125, c126, rfl, F127, G129⟩
        have z130 := V.Fr.size G129
        try replace F_splits := F_splits.gr G129
        try replace Fk2 := Fk2.gr G129
        try replace F14 := F14.gr G129
        replace HG := HG.grow G129
        clear G129
        refine V.run T_ok 1 rfl ?_
        refine V.nil ?_
        refine V.tN ?_
        refine V.seq ?_
        refine V.region ?_
        refine V.run T_ok 1 rfl ?_
        refine V.nil ?_
        refine V.tN ?_
        refine V.seq ?_
        refine V.seq ?_
        refine V.region ?_
        refine V.run T_ok 1 rfl ?_
        refine V.nil ?_
        refine V.tN ?_
        refine V.block ?_
        refine V.loopM (fun m e v132 => Fr [] w v132 ∧ w128.heap.size ≤ v132.heap.size ∧ Sl V.Cod.str v132 D_splits a_splits c_splits splits ∧ Cells v132 k1 [.string f, .string t] 24 ∧ Dir v132 k12 (fun j => w9.heap.size ≤ j ∧ j < w15.heap.size) (bnds splits) ∧ V.Row (V.Cod.pair (V.Cod.int .i64) (V.Cod.pair V.Cod.str V.Cod.str)) 48 v132 V.None' v26.heap.size w128.heap.size a125 c126 (ptV (bnds splits) f t ((bnds splits).length - 1)) ∧ ∃ (i : Nat) , m = (ptV (bnds splits) f t ((bnds splits).length - 1)).length - i ∧ i ≤ (ptV (bnds splits) f t ((bnds splits).length - 1)).length ∧ e 1 = .string key ∧ e 5 = .pointer (some ⟨k1, 0, none⟩) ∧ e 11 = .int .i64 (fdV (bnds splits) key) ∧ e 17 = .slice a125 (ptV (bnds splits) f t ((bnds splits).length - 1)).length c126 ∧ e 18 = .int .i64 (cntV ((ptV (bnds splits) f t ((bnds splits).length - 1)).take i) key : Int) ∧ e 19 = .int .i64 (i : Int)) ?_ ?_
        ·
          exact ⟨_, HG, (by omega), F_splits, Fk2, F14, F127, (0), rfl, (by omega), rfl, rfl, rfl, rfl, rfl, rfl⟩
        clear HG F_splits Fk2 F14 F127
        rintro _ e v132 ⟨HG, z133, F_splits, Fk2, F14, F127, i, rfl, hi2, he1_1, he1_5, he1_11, he1_17, he1_18, he1_19⟩
        have hcl := cnt_le (l := ptV (bnds splits) f t ((bnds splits).length - 1)) (i := i) (k := key)
        have hpl := ptV_len (bs := bnds splits) (f := f) (t := t) (n := (bnds splits).length - 1)
        refine V.knownC (t := 1) he1_1 ?_
        refine V.knownC (t := 5) he1_5 ?_
        refine V.knownC (t := 11) he1_11 ?_
        refine V.knownC (t := 17) he1_17 ?_
        refine V.knownC (t := 18) he1_18 ?_
        refine V.knownC (t := 19) he1_19 ?_
        refine V.seq ?_
        refine V.seq ?_
        refine V.region ?_
        refine V.run T_ok 4 rfl ?_
        refine V.nil ?_
        refine V.tN ?_
        refine V.condT rfl (fun h23 => ?_) (fun h23 => ?_)
        ·
          try simp only [decide_eq_true_eq, decide_eq_false_iff_not, Bool.or_eq_true, Bool.and_eq_true, Bool.or_eq_false_iff, Bool.and_eq_false_iff, Bool.not_eq_true', Bool.not_eq_false', Int.not_lt, Int.not_le, Decidable.not_not, V.u8eq, V.S_inj, V.S_lit, V.S_lit2, V.bl] at h23
          try simp only [V.mk0, V.mk1, V.mk2, V.mk3] at h23
          refine V.skip ?_
          refine V.tN ?_
          refine V.seq ?_
          refine V.block ?_
          refine V.seq ?_
          refine V.seq ?_
          refine V.region ?_
          refine V.run T_ok 2 rfl ?_
          refine V.elem T_ok F127.sl rfl rfl sz48 rfl rfl rfl rfl (by first | omega | (simp only [List.length_take, List.length_drop, List.length_append, List.length_cons, List.length_nil, List.length_replicate, List.length_set, V.length_data, V.S_size]; omega)) (by first | omega | (simp only [List.length_take, List.length_drop, List.length_append, List.length_cons, List.length_nil, List.length_replicate, List.length_set, V.length_data, V.S_size]; omega)) ?_
          rintro b134 o135 cs136 hx137 hb138 hR141 hA139
          obtain ⟨x140, hx140⟩ : ∃ z', (ptV (bnds splits) f t ((bnds splits).length - 1))[((i : Int)).toNat] = z' := ⟨_, rfl⟩
          rw [hx140] at hR141
          obtain ⟨_, _, rfl, rfl, ⟨_, _, rfl, rfl, rfl⟩⟩ := hR141
          try simp only [Int.toNat_natCast] at hx140 hx137
          refine V.run T_ok 1 rfl ?_
          have hps := pt_size (bnds_ok hok).2.2 hf ht (by omega) hx140
          refine V.loadA T_ok (o0 := o135) (off := 1) hA139 rfl rfl rfl rfl rfl ?_
          refine V.run T_ok 1 rfl ?_
          refine V.call (has_spec (f := x140.2.1) (t := x140.2.2) (k := key) (by first | omega | decide | (simp only [V.S_size, List.length_cons, List.length_nil]; omega)) (by first | omega | decide | (simp only [V.S_size, List.length_cons, List.length_nil]; omega)) (by first | omega | decide | (simp only [V.S_size, List.length_cons, List.length_nil]; omega))) rfl rfl rfl ?_
          rintro _ w142 ⟨rfl, G143⟩
          have z144 := V.Fr.size G143
          try replace F_splits := F_splits.gr G143
          try replace Fk2 := Fk2.gr G143
          try replace F14 := F14.gr G143
          try replace F127 := F127.gr G143
          replace HG := HG.grow G143
          clear G143
          refine V.nil ?_
          refine V.tN ?_
          refine V.condT rfl (fun h25 => ?_) (fun h25 => ?_)
          ·
            try simp only [decide_eq_true_eq, decide_eq_false_iff_not, Bool.or_eq_true, Bool.and_eq_true, Bool.or_eq_false_iff, Bool.and_eq_false_iff, Bool.not_eq_true', Bool.not_eq_false', Int.not_lt, Int.not_le, Decidable.not_not, V.u8eq, V.S_inj, V.S_lit, V.S_lit2, V.bl] at h25
            try simp only [V.mk0, V.mk1, V.mk2, V.mk3] at h25
            refine V.seq ?_
            refine V.region ?_
            refine V.run T_ok 1 rfl ?_
            refine V.addN rfl rfl rfl rfl rfl (by first | omega | (simp only [List.length_take, List.length_drop, List.length_append, List.length_cons, List.length_nil, List.length_replicate, List.length_set, V.length_data, V.S_size]; omega)) (by first | omega | (simp only [List.length_take, List.length_drop, List.length_append, List.length_cons, List.length_nil, List.length_replicate, List.length_set, V.length_data, V.S_size]; omega)) ?_
            refine V.run T_ok 1 rfl ?_
            refine V.nil ?_
            refine V.tN ?_
            refine V.seq ?_
            refine V.region ?_
            refine V.run T_ok 2 rfl ?_
            refine V.elem T_ok F127.sl rfl rfl sz48 rfl rfl rfl rfl (by first | omega | (simp only [List.length_take, List.length_drop, List.length_append, List.length_cons, List.length_nil, List.length_replicate, List.length_set, V.length_data, V.S_size]; omega)) (by first | omega | (simp only [List.length_take, List.length_drop, List.length_append, List.length_cons, List.length_nil, List.length_replicate, List.length_set, V.length_data, V.S_size]; omega)) ?_
            rintro b145 o146 cs147 hx148 hb149 hR152 hA150
            obtain ⟨x151, hx151⟩ : ∃ z', (ptV (bnds splits) f t ((bnds splits).length - 1))[((i : Int)).toNat] = z' := ⟨_, rfl⟩
            rw [hx151] at hR152
            obtain ⟨_, _, rfl, rfl, ⟨_, _, rfl, rfl, rfl⟩⟩ := hR152
            try simp only [Int.toNat_natCast] at hx151 hx148
            obtain rfl : x140 = x151 := hx140.symm.trans hx151
            refine V.run T_ok 1 rfl ?_
            refine V.loadA T_ok (o0 := o146) (off := 0) hA150 rfl rfl rfl rfl rfl ?_
            refine V.run T_ok 2 rfl ?_
            refine V.nil ?_
            refine V.tN ?_
            refine V.condN rfl (by (refine decide_eq_false (fun z => z ?_); have z1 := pt_has (f := f) (t := t) (n := (bnds splits).length - 1) (i := i) hm1 (by omega) (by assumption) (by assumption) (by assumption); have z2 := hm2 (hm3 z1.2); omega)) ?_
            refine V.skip ?_
            refine V.tN ?_
            refine V.seq ?_
            refine V.drawQ mixed (by kernel_rfl) ?_
            refine V.qrun T_ok 3 rfl ?_
            refine V.qsplit (j := 2) (t := 119) rfl rfl (fun g29_2 => ?_) (fun g29_2 => ?_)
            ·
              try simp only [decide_eq_true_eq, decide_eq_false_iff_not, Bool.or_eq_true, Bool.and_eq_true, Bool.or_eq_false_iff, Bool.and_eq_false_iff, Bool.not_eq_true', Bool.not_eq_false', Int.not_lt, Int.not_le, Decidable.not_not, V.u8eq, V.S_inj, V.S_lit, V.S_lit2, V.bl] at g29_2
              try simp only [V.mk0, V.mk1, V.mk2, V.mk3] at g29_2
              refine V.qrun T_ok 2 rfl ?_
              refine V.qyes rfl rfl rfl ?_
              refine V.qelem T_ok F127.sl rfl rfl sz48 rfl rfl rfl rfl (by first | omega | (simp only [List.length_take, List.length_drop, List.length_append, List.length_cons, List.length_nil, List.length_replicate, List.length_set, V.length_data, V.S_size]; omega)) (by first | omega | (simp only [List.length_take, List.length_drop, List.length_append, List.length_cons, List.length_nil, List.length_replicate, List.length_set, V.length_data, V.S_size]; omega)) ?_
              rintro b153 o154 cs155 hx156 hb157 hR160 hA158
              obtain ⟨x159, hx159⟩ : ∃ z', (ptV (bnds splits) f t ((bnds splits).length - 1))[((i : Int)).toNat] = z' := ⟨_, rfl⟩
              rw [hx159] at hR160
              obtain ⟨_, _, rfl, rfl, ⟨_, _, rfl, rfl, rfl⟩⟩ := hR160
              try simp only [Int.toNat_natCast] at hx159 hx156
              obtain rfl : x140 = x159 := hx140.symm.trans hx159
              refine V.qrun T_ok 1 rfl ?_
              refine V.qyes rfl rfl rfl ?_
              refine V.qloadA T_ok (o0 := o154) (off := 0) hA158 rfl rfl rfl rfl rfl ?_
              refine V.qrun T_ok 2 rfl ?_
              refine V.qyes rfl rfl rfl ?_
              refine V.qsubN rfl rfl rfl rfl rfl (by first | omega | (simp only [List.length_take, List.length_drop, List.length_append, List.length_cons, List.length_nil, List.length_replicate, List.length_set, V.length_data, V.S_size]; omega)) (by first | omega | (simp only [List.length_take, List.length_drop, List.length_append, List.length_cons, List.length_nil, List.length_replicate, List.length_set, V.length_data, V.S_size]; omega)) ?_
              refine V.qyes rfl rfl rfl ?_
              refine V.qelem T_ok F127.sl rfl rfl sz48 rfl rfl rfl rfl (by first | omega | (simp only [List.length_take, List.length_drop, List.length_append, List.length_cons, List.length_nil, List.length_replicate, List.length_set, V.length_data, V.S_size]; omega)) (by first | omega | (simp only [List.length_take, List.length_drop, List.length_append, List.length_cons, List.length_nil, List.length_replicate, List.length_set, V.length_data, V.S_size]; omega)) ?_
              rintro b161 o162 cs163 hx164 hb165 hR168 hA166
              obtain ⟨x167, hx167⟩ : ∃ z', (ptV (bnds splits) f t ((bnds splits).length - 1))[((i : Int) - 1).toNat] = z' := ⟨_, rfl⟩
              rw [hx167] at hR168
              obtain ⟨_, _, rfl, rfl, ⟨_, _, rfl, rfl, rfl⟩⟩ := hR168
              try simp only [Int.toNat_natCast] at hx167 hx164
              refine V.qrun T_ok 1 rfl ?_
              refine V.qyes rfl rfl rfl ?_
              refine V.qloadA T_ok (o0 := o162) (off := 0) hA166 rfl rfl rfl rfl rfl ?_
              refine V.qyes rfl rfl rfl ?_
              have hqs := pt_size (bnds_ok hok).2.2 hf ht (by omega) hx167
              refine V.qaddN rfl rfl rfl rfl rfl (by first | omega | (simp only [List.length_take, List.length_drop, List.length_append, List.length_cons, List.length_nil, List.length_replicate, List.length_set, V.length_data, V.S_size]; omega)) (by first | omega | (simp only [List.length_take, List.length_drop, List.length_append, List.length_cons, List.length_nil, List.length_replicate, List.length_set, V.length_data, V.S_size]; omega)) ?_
              refine V.qrun T_ok 2 rfl ?_
              refine V.qnil ?_
              rintro w169 G170
              have z171 := V.Fr.size G170
              try replace F_splits := F_splits.gr G170
              try replace Fk2 := Fk2.gr G170
              try replace F14 := F14.gr G170
              try replace F127 := F127.gr G170
              replace HG := HG.grow G170
              clear G170
              refine V.tN ?_
              refine V.condN rfl (by (first | rfl | (refine decide_eq_false (fun z => z ?_); exact next_at (l := ptV (bnds splits) f t ((bnds splits).length - 1)) (pt_next hg (f := f) (t := t) _ (by omega)).1 (j := ((i : Int) - 1).toNat) (i := i) (by omega) (by assumption) (by assumption)))) ?_
              refine V.skip ?_
              refine V.bN ?_
              refine V.tN ?_
              refine V.region ?_
              refine V.run T_ok 1 rfl ?_
              refine V.addN rfl rfl rfl rfl rfl (by first | omega | (simp only [List.length_take, List.length_drop, List.length_append, List.length_cons, List.length_nil, List.length_replicate, List.length_set, V.length_data, V.S_size]; omega)) (by first | omega | (simp only [List.length_take, List.length_drop, List.length_append, List.length_cons, List.length_nil, List.length_replicate, List.length_set, V.length_data, V.S_size]; omega)) ?_
              refine V.run T_ok 1 rfl ?_
              refine V.nil ?_
              refine V.tN ?_
              exact ⟨_, (by omega), HG, (by omega), F_splits, Fk2, F14, F127, (i + 1), rfl, (by omega), rfl, rfl, rfl, rfl, (congrArg (Value.int .i64) (by first | exact cnt_yes (by omega) (by assumption) (by assumption) | exact cnt_no (by omega) (by assumption) (by assumption))), rfl⟩
            ·
              try simp only [decide_eq_true_eq, decide_eq_false_iff_not, Bool.or_eq_true, Bool.and_eq_true, Bool.or_eq_false_iff, Bool.and_eq_false_iff, Bool.not_eq_true', Bool.not_eq_false', Int.not_lt, Int.not_le, Decidable.not_not, V.u8eq, V.S_inj, V.S_lit, V.S_lit2, V.bl] at g29_2
              try simp only [V.mk0, V.mk1, V.mk2, V.mk3] at g29_2
              refine V.qrun T_ok 14 rfl ?_
              refine V.qnil ?_
              rintro w172 G173
              have z174 := V.Fr.size G173
              try replace F_splits := F_splits.gr G173
              try replace Fk2 := Fk2.gr G173
              try replace F14 := F14.gr G173
              try replace F127 := F127.gr G173
              replace HG := HG.grow G173
              clear G173
              refine V.tN ?_
              refine V.condN rfl (by (first | rfl | (refine decide_eq_false (fun z => z ?_); exact next_at (l := ptV (bnds splits) f t ((bnds splits).length - 1)) (pt_next hg (f := f) (t := t) _ (by omega)).1 (j := ((i : Int) - 1).toNat) (i := i) (by omega) (by assumption) (by assumption)))) ?_
              refine V.skip ?_
              refine V.bN ?_
              refine V.tN ?_
              refine V.region ?_
              refine V.run T_ok 1 rfl ?_
              refine V.addN rfl rfl rfl rfl rfl (by first | omega | (simp only [List.length_take, List.length_drop, List.length_append, List.length_cons, List.length_nil, List.length_replicate, List.length_set, V.length_data, V.S_size]; omega)) (by first | omega | (simp only [List.length_take, List.length_drop, List.length_append, List.length_cons, List.length_nil, List.length_replicate, List.length_set, V.length_data, V.S_size]; omega)) ?_
              refine V.run T_ok 1 rfl ?_
              refine V.nil ?_
              refine V.tN ?_
              exact ⟨_, (by omega), HG, (by omega), F_splits, Fk2, F14, F127, (i + 1), rfl, (by omega), rfl, rfl, rfl, rfl, (congrArg (Value.int .i64) (by first | exact cnt_yes (by omega) (by assumption) (by assumption) | exact cnt_no (by omega) (by assumption) (by assumption))), rfl⟩
          ·
            try simp only [decide_eq_true_eq, decide_eq_false_iff_not, Bool.or_eq_true, Bool.and_eq_true, Bool.or_eq_false_iff, Bool.and_eq_false_iff, Bool.not_eq_true', Bool.not_eq_false', Int.not_lt, Int.not_le, Decidable.not_not, V.u8eq, V.S_inj, V.S_lit, V.S_lit2, V.bl] at h25
            try simp only [V.mk0, V.mk1, V.mk2, V.mk3] at h25
            refine V.skip ?_
            refine V.tN ?_
            refine V.seq ?_
            refine V.drawQ mixed (by kernel_rfl) ?_
            refine V.qrun T_ok 3 rfl ?_
            refine V.qsplit (j := 2) (t := 119) rfl rfl (fun g29_2 => ?_) (fun g29_2 => ?_)
            ·
              try simp only [decide_eq_true_eq, decide_eq_false_iff_not, Bool.or_eq_true, Bool.and_eq_true, Bool.or_eq_false_iff, Bool.and_eq_false_iff, Bool.not_eq_true', Bool.not_eq_false', Int.not_lt, Int.not_le, Decidable.not_not, V.u8eq, V.S_inj, V.S_lit, V.S_lit2, V.bl] at g29_2
              try simp only [V.mk0, V.mk1, V.mk2, V.mk3] at g29_2
              refine V.qrun T_ok 2 rfl ?_
              refine V.qyes rfl rfl rfl ?_
              refine V.qelem T_ok F127.sl rfl rfl sz48 rfl rfl rfl rfl (by first | omega | (simp only [List.length_take, List.length_drop, List.length_append, List.length_cons, List.length_nil, List.length_replicate, List.length_set, V.length_data, V.S_size]; omega)) (by first | omega | (simp only [List.length_take, List.length_drop, List.length_append, List.length_cons, List.length_nil, List.length_replicate, List.length_set, V.length_data, V.S_size]; omega)) ?_
              rintro b175 o176 cs177 hx178 hb179 hR182 hA180
              obtain ⟨x181, hx181⟩ : ∃ z', (ptV (bnds splits) f t ((bnds splits).length - 1))[((i : Int)).toNat] = z' := ⟨_, rfl⟩
              rw [hx181] at hR182
              obtain ⟨_, _, rfl, rfl, ⟨_, _, rfl, rfl, rfl⟩⟩ := hR182
              try simp only [Int.toNat_natCast] at hx181 hx178
              obtain rfl : x140 = x181 := hx140.symm.trans hx181
              refine V.qrun T_ok 1 rfl ?_
              refine V.qyes rfl rfl rfl ?_
              refine V.qloadA T_ok (o0 := o176) (off := 0) hA180 rfl rfl rfl rfl rfl ?_
              refine V.qrun T_ok 2 rfl ?_
              refine V.qyes rfl rfl rfl ?_
              refine V.qsubN rfl rfl rfl rfl rfl (by first | omega | (simp only [List.length_take, List.length_drop, List.length_append, List.length_cons, List.length_nil, List.length_replicate, List.length_set, V.length_data, V.S_size]; omega)) (by first | omega | (simp only [List.length_take, List.length_drop, List.length_append, List.length_cons, List.length_nil, List.length_replicate, List.length_set, V.length_data, V.S_size]; omega)) ?_
              refine V.qyes rfl rfl rfl ?_
              refine V.qelem T_ok F127.sl rfl rfl sz48 rfl rfl rfl rfl (by first | omega | (simp only [List.length_take, List.length_drop, List.length_append, List.length_cons, List.length_nil, List.length_replicate, List.length_set, V.length_data, V.S_size]; omega)) (by first | omega | (simp only [List.length_take, List.length_drop, List.length_append, List.length_cons, List.length_nil, List.length_replicate, List.length_set, V.length_data, V.S_size]; omega)) ?_
              rintro b183 o184 cs185 hx186 hb187 hR190 hA188
              obtain ⟨x189, hx189⟩ : ∃ z', (ptV (bnds splits) f t ((bnds splits).length - 1))[((i : Int) - 1).toNat] = z' := ⟨_, rfl⟩
              rw [hx189] at hR190
              obtain ⟨_, _, rfl, rfl, ⟨_, _, rfl, rfl, rfl⟩⟩ := hR190
              try simp only [Int.toNat_natCast] at hx189 hx186
              refine V.qrun T_ok 1 rfl ?_
              refine V.qyes rfl rfl rfl ?_
              refine V.qloadA T_ok (o0 := o184) (off := 0) hA188 rfl rfl rfl rfl rfl ?_
              refine V.qyes rfl rfl rfl ?_
              have hqs := pt_size (bnds_ok hok).2.2 hf ht (by omega) hx189
              refine V.qaddN rfl rfl rfl rfl rfl (by first | omega | (simp only [List.length_take, List.length_drop, List.length_append, List.length_cons, List.length_nil, List.length_replicate, List.length_set, V.length_data, V.S_size]; omega)) (by first | omega | (simp only [List.length_take, List.length_drop, List.length_append, List.length_cons, List.length_nil, List.length_replicate, List.length_set, V.length_data, V.S_size]; omega)) ?_
              refine V.qrun T_ok 2 rfl ?_
              refine V.qnil ?_
              rintro w191 G192
              have z193 := V.Fr.size G192
              try replace F_splits := F_splits.gr G192
              try replace Fk2 := Fk2.gr G192
              try replace F14 := F14.gr G192
              try replace F127 := F127.gr G192
              replace HG := HG.grow G192
              clear G192
              refine V.tN ?_
              refine V.condN rfl (by (first | rfl | (refine decide_eq_false (fun z => z ?_); exact next_at (l := ptV (bnds splits) f t ((bnds splits).length - 1)) (pt_next hg (f := f) (t := t) _ (by omega)).1 (j := ((i : Int) - 1).toNat) (i := i) (by omega) (by assumption) (by assumption)))) ?_
              refine V.skip ?_
              refine V.bN ?_
              refine V.tN ?_
              refine V.region ?_
              refine V.run T_ok 1 rfl ?_
              refine V.addN rfl rfl rfl rfl rfl (by first | omega | (simp only [List.length_take, List.length_drop, List.length_append, List.length_cons, List.length_nil, List.length_replicate, List.length_set, V.length_data, V.S_size]; omega)) (by first | omega | (simp only [List.length_take, List.length_drop, List.length_append, List.length_cons, List.length_nil, List.length_replicate, List.length_set, V.length_data, V.S_size]; omega)) ?_
              refine V.run T_ok 1 rfl ?_
              refine V.nil ?_
              refine V.tN ?_
              exact ⟨_, (by omega), HG, (by omega), F_splits, Fk2, F14, F127, (i + 1), rfl, (by omega), rfl, rfl, rfl, rfl, (congrArg (Value.int .i64) (by first | exact cnt_yes (by omega) (by assumption) (by assumption) | exact cnt_no (by omega) (by assumption) (by assumption))), rfl⟩
            ·
              try simp only [decide_eq_true_eq, decide_eq_false_iff_not, Bool.or_eq_true, Bool.and_eq_true, Bool.or_eq_false_iff, Bool.and_eq_false_iff, Bool.not_eq_true', Bool.not_eq_false', Int.not_lt, Int.not_le, Decidable.not_not, V.u8eq, V.S_inj, V.S_lit, V.S_lit2, V.bl] at g29_2
              try simp only [V.mk0, V.mk1, V.mk2, V.mk3] at g29_2
              refine V.qrun T_ok 14 rfl ?_
              refine V.qnil ?_
              rintro w194 G195
              have z196 := V.Fr.size G195
              try replace F_splits := F_splits.gr G195
              try replace Fk2 := Fk2.gr G195
              try replace F14 := F14.gr G195
              try replace F127 := F127.gr G195
              replace HG := HG.grow G195
              clear G195
              refine V.tN ?_
              refine V.condN rfl (by (first | rfl | (refine decide_eq_false (fun z => z ?_); exact next_at (l := ptV (bnds splits) f t ((bnds splits).length - 1)) (pt_next hg (f := f) (t := t) _ (by omega)).1 (j := ((i : Int) - 1).toNat) (i := i) (by omega) (by assumption) (by assumption)))) ?_
              refine V.skip ?_
              refine V.bN ?_
              refine V.tN ?_
              refine V.region ?_
              refine V.run T_ok 1 rfl ?_
              refine V.addN rfl rfl rfl rfl rfl (by first | omega | (simp only [List.length_take, List.length_drop, List.length_append, List.length_cons, List.length_nil, List.length_replicate, List.length_set, V.length_data, V.S_size]; omega)) (by first | omega | (simp only [List.length_take, List.length_drop, List.length_append, List.length_cons, List.length_nil, List.length_replicate, List.length_set, V.length_data, V.S_size]; omega)) ?_
              refine V.run T_ok 1 rfl ?_
              refine V.nil ?_
              refine V.tN ?_
              exact ⟨_, (by omega), HG, (by omega), F_splits, Fk2, F14, F127, (i + 1), rfl, (by omega), rfl, rfl, rfl, rfl, (congrArg (Value.int .i64) (by first | exact cnt_yes (by omega) (by assumption) (by assumption) | exact cnt_no (by omega) (by assumption) (by assumption))), rfl⟩
        ·
          try simp only [decide_eq_true_eq, decide_eq_false_iff_not, Bool.or_eq_true, Bool.and_eq_true, Bool.or_eq_false_iff, Bool.and_eq_false_iff, Bool.not_eq_true', Bool.not_eq_false', Int.not_lt, Int.not_le, Decidable.not_not, V.u8eq, V.S_inj, V.S_lit, V.S_lit2, V.bl] at h23
          try simp only [V.mk0, V.mk1, V.mk2, V.mk3] at h23
          refine V.exit ?_
          refine V.tX ?_
          refine V.tX ?_
          refine V.bE ?_
          refine V.tN ?_
          refine V.seq ?_
          have hca := cnt_all hg (f := f) (t := t) hm1 hm3 (fun h => (hm2 h).2)
          have hti : (ptV (bnds splits) f t ((bnds splits).length - 1)).take i = ptV (bnds splits) f t ((bnds splits).length - 1) := List.take_of_length_le (by omega)
          refine V.region ?_
          refine V.call (alive_spec) rfl rfl rfl ?_
          rintro _ w197 ⟨rfl, G198⟩
          have z199 := V.Fr.size G198
          try replace F_splits := F_splits.gr G198
          try replace Fk2 := Fk2.gr G198
          try replace F14 := F14.gr G198
          try replace F127 := F127.gr G198
          replace HG := HG.grow G198
          clear G198
          refine V.run T_ok 5 rfl ?_
          refine V.splitT (j := 5) (t := 139) rfl rfl (by (rw [hti, hca]; exact decide_eq_true one_le.2)) ?_
          refine V.run T_ok 2 rfl ?_
          refine V.yes rfl rfl rfl ?_
          refine V.loadO T_ok Fk2 rfl rfl rfl rfl rfl ?_
          refine V.run T_ok 1 rfl ?_
          refine V.yes rfl rfl rfl ?_
          refine V.call (has_spec (f := f) (t := t) (k := key) (by first | omega | decide | (simp only [V.S_size, List.length_cons, List.length_nil]; omega)) (by first | omega | decide | (simp only [V.S_size, List.length_cons, List.length_nil]; omega)) (by first | omega | decide | (simp only [V.S_size, List.length_cons, List.length_nil]; omega))) rfl rfl rfl ?_
          rintro _ w200 ⟨rfl, G201⟩
          have z202 := V.Fr.size G201
          try replace F_splits := F_splits.gr G201
          try replace Fk2 := Fk2.gr G201
          try replace F14 := F14.gr G201
          try replace F127 := F127.gr G201
          replace HG := HG.grow G201
          clear G201
          refine V.run T_ok 3 rfl ?_
          refine V.nil ?_
          refine V.tN ?_
          refine V.ret ?_
          refine V.done rfl ?_
          exact ⟨congrArg Value.bool (by rw [hti, hca]; cases hasB f t key <;> rfl), HG⟩

theorem directoryOnce_walk {w : World}  {D_splits : Nat → Prop} {c_splits : Nat} {a_splits : Option Addr} {splits : List ByteArray} (F_splits : Sl V.Cod.str w D_splits a_splits c_splits splits) (hD_splits : ∀ k, D_splits k → k < w.heap.size) {key : ByteArray} {f : ByteArray} {t : ByteArray} (hs : ∀ s ∈ splits, s.size ≤ 9223372036854775807) (hk : key.size ≤ 9223372036854775807) (hf : f.size ≤ 9223372036854775807) (ht : t.size ≤ 9223372036854775807) :
    Meets Try.prog 4 [.slice a_splits splits.length c_splits, .string key, .agg #[.string f, .string t]] w fun r w' => r = .bool true ∧ Gr w w' := by
  cases hok : okB splits with
  | true => exact directoryOnce_ok F_splits hD_splits hok hs hk hf ht
  | false => exact directoryOnce_no F_splits hD_splits hok hs hk hf ht

set_option maxHeartbeats 4000000 in
set_option maxRecDepth 10000 in
theorem directoryWhole_no {w : World}  {D_splits : Nat → Prop} {c_splits : Nat} {a_splits : Option Addr} {splits : List ByteArray} (F_splits : Sl V.Cod.str w D_splits a_splits c_splits splits) (hD_splits : ∀ k, D_splits k → k < w.heap.size) {f : ByteArray} {t : ByteArray} {f2 : ByteArray} {t2 : ByteArray} (hok : okB splits = false) (hs : ∀ s ∈ splits, s.size ≤ 9223372036854775807) (hf : f.size ≤ 9223372036854775807) (ht : t.size ≤ 9223372036854775807) (hf2 : f2.size ≤ 9223372036854775807) (ht2 : t2.size ≤ 9223372036854775807) :
    Meets Try.prog 6 [.slice a_splits splits.length c_splits, .agg #[.string f, .string t], .agg #[.string f2, .string t2]] w fun r w' => r = .bool true ∧ Gr w w' := by
  have HG := V.Fr.refl [] w
  refine V.enter (n := 165) Try.func6 rfl rfl (by decide) rfl ?_
  refine V.seq ?_
  refine V.region ?_
  refine V.box rfl rfl rfl rfl ?_
  rintro k1 w3 s5 s6 G4 Fk2
  have z7 := V.Fr.size G4
  try replace F_splits := F_splits.gr G4
  replace HG := HG.grow G4
  clear G4
  try simp only [V.cellsL, V.spliceL] at Fk2
  refine V.box rfl rfl rfl rfl ?_
  rintro k8 w10 s12 s13 G11 Fk9
  have z14 := V.Fr.size G11
  try replace F_splits := F_splits.gr G11
  try replace Fk2 := Fk2.gr G11
  replace HG := HG.grow G11
  clear G11
  try simp only [V.cellsL, V.spliceL] at Fk9
  refine V.run T_ok 1 rfl ?_
  refine V.nil ?_
  refine V.tN ?_
  refine V.seq ?_
  refine V.region ?_
  refine V.run T_ok 1 rfl ?_
  refine V.call (fits_spec F_splits) rfl rfl rfl ?_
  rintro _ w10_ ⟨rfl, rfl⟩
  refine V.run T_ok 1 rfl ?_
  refine V.nil ?_
  refine V.tN ?_
  refine V.seq ?_
  refine V.region ?_
  refine V.loadO T_ok Fk2 rfl rfl rfl rfl rfl ?_
  refine V.call (Fits_spec (f := f) (t := t)) rfl rfl rfl ?_
  rintro _ w16 ⟨rfl, G17⟩
  have z18 := V.Fr.size G17
  try replace F_splits := F_splits.gr G17
  try replace Fk2 := Fk2.gr G17
  try replace Fk9 := Fk9.gr G17
  replace HG := HG.grow G17
  clear G17
  refine V.run T_ok 1 rfl ?_
  refine V.nil ?_
  refine V.tN ?_
  refine V.seq ?_
  refine V.region ?_
  refine V.loadO T_ok Fk9 rfl rfl rfl rfl rfl ?_
  refine V.call (Fits_spec (f := f2) (t := t2)) rfl rfl rfl ?_
  rintro _ w19 ⟨rfl, G20⟩
  have z21 := V.Fr.size G20
  try replace F_splits := F_splits.gr G20
  try replace Fk2 := Fk2.gr G20
  try replace Fk9 := Fk9.gr G20
  replace HG := HG.grow G20
  clear G20
  refine V.run T_ok 1 rfl ?_
  refine V.nil ?_
  refine V.tN ?_
  refine V.seq ?_
  refine V.region ?_
  refine V.run T_ok 1 rfl ?_
  refine V.call (new_no F_splits (fun k hk => by have := hD_splits k hk; omega) (by first | assumption | decide +kernel) (by first | assumption | decide | (intro s hs; simp at hs; omega) | (intro s hs; simp at hs; subst hs; omega))) rfl rfl rfl ?_
  rintro _ w22 ⟨rfl, G23⟩
  have z24 := V.Fr.size G23
  try replace F_splits := F_splits.gr G23
  try replace Fk2 := Fk2.gr G23
  try replace Fk9 := Fk9.gr G23
  replace HG := HG.grow G23
  clear G23
  refine V.run T_ok 5 rfl ?_
  refine V.nil ?_
  refine V.tN ?_
  refine V.seq ?_
  refine V.seq ?_
  refine V.region ?_
  refine V.run T_ok 3 rfl ?_
  refine V.orG T_ok 2 2 35 rfl rfl rfl rfl rfl rfl rfl rfl ?_
  refine V.run T_ok 1 rfl ?_
  refine V.orG T_ok 2 6 39 rfl rfl rfl rfl rfl rfl rfl rfl ?_
  refine V.run T_ok 1 rfl ?_
  refine V.orG T_ok 2 10 43 rfl rfl rfl rfl rfl rfl rfl rfl ?_
  refine V.run T_ok 1 rfl ?_
  refine V.splitT (j := 14) (t := 47) rfl rfl (by (first | rfl | (unfold eNew; split <;> simp))) ?_
  refine V.run T_ok 3 rfl ?_
  refine V.nil ?_
  refine V.tN ?_
  refine V.condY rfl (by (first | rfl | (unfold eNew; split <;> simp))) ?_
  refine V.seq ?_
  refine V.region ?_
  refine V.call (alive_spec) rfl rfl rfl ?_
  rintro _ w25 ⟨rfl, G26⟩
  have z27 := V.Fr.size G26
  try replace F_splits := F_splits.gr G26
  try replace Fk2 := Fk2.gr G26
  try replace Fk9 := Fk9.gr G26
  replace HG := HG.grow G26
  clear G26
  refine V.run T_ok 1 rfl ?_
  refine V.nil ?_
  refine V.tN ?_
  refine V.ret ?_
  refine V.tR ?_
  refine V.done rfl ?_
  exact ⟨(by first | rfl | simp only [List.length_set]), HG⟩

set_option maxHeartbeats 4000000 in
set_option maxRecDepth 10000 in
theorem directoryWhole_ok {w : World}  {D_splits : Nat → Prop} {c_splits : Nat} {a_splits : Option Addr} {splits : List ByteArray} (F_splits : Sl V.Cod.str w D_splits a_splits c_splits splits) (hD_splits : ∀ k, D_splits k → k < w.heap.size) {f : ByteArray} {t : ByteArray} {f2 : ByteArray} {t2 : ByteArray} (hok : okB splits = true) (hs : ∀ s ∈ splits, s.size ≤ 9223372036854775807) (hf : f.size ≤ 9223372036854775807) (ht : t.size ≤ 9223372036854775807) (hf2 : f2.size ≤ 9223372036854775807) (ht2 : t2.size ≤ 9223372036854775807) :
    Meets Try.prog 6 [.slice a_splits splits.length c_splits, .agg #[.string f, .string t], .agg #[.string f2, .string t2]] w fun r w' => r = .bool true ∧ Gr w w' := by
  have HG := V.Fr.refl [] w
  refine V.enter (n := 165) Try.func6 rfl rfl (by decide) rfl ?_
  refine V.seq ?_
  refine V.region ?_
  refine V.box rfl rfl rfl rfl ?_
  rintro k1 w3 s5 s6 G4 Fk2
  have z7 := V.Fr.size G4
  try replace F_splits := F_splits.gr G4
  replace HG := HG.grow G4
  clear G4
  try simp only [V.cellsL, V.spliceL] at Fk2
  refine V.box rfl rfl rfl rfl ?_
  rintro k8 w10 s12 s13 G11 Fk9
  have z14 := V.Fr.size G11
  try replace F_splits := F_splits.gr G11
  try replace Fk2 := Fk2.gr G11
  replace HG := HG.grow G11
  clear G11
  try simp only [V.cellsL, V.spliceL] at Fk9
  refine V.run T_ok 1 rfl ?_
  refine V.nil ?_
  refine V.tN ?_
  refine V.seq ?_
  refine V.region ?_
  refine V.run T_ok 1 rfl ?_
  refine V.call (fits_spec F_splits) rfl rfl rfl ?_
  rintro _ w10_ ⟨rfl, rfl⟩
  refine V.run T_ok 1 rfl ?_
  refine V.nil ?_
  refine V.tN ?_
  refine V.seq ?_
  refine V.region ?_
  refine V.loadO T_ok Fk2 rfl rfl rfl rfl rfl ?_
  refine V.call (Fits_spec (f := f) (t := t)) rfl rfl rfl ?_
  rintro _ w16 ⟨rfl, G17⟩
  have z18 := V.Fr.size G17
  try replace F_splits := F_splits.gr G17
  try replace Fk2 := Fk2.gr G17
  try replace Fk9 := Fk9.gr G17
  replace HG := HG.grow G17
  clear G17
  refine V.run T_ok 1 rfl ?_
  refine V.nil ?_
  refine V.tN ?_
  refine V.seq ?_
  refine V.region ?_
  refine V.loadO T_ok Fk9 rfl rfl rfl rfl rfl ?_
  refine V.call (Fits_spec (f := f2) (t := t2)) rfl rfl rfl ?_
  rintro _ w19 ⟨rfl, G20⟩
  have z21 := V.Fr.size G20
  try replace F_splits := F_splits.gr G20
  try replace Fk2 := Fk2.gr G20
  try replace Fk9 := Fk9.gr G20
  replace HG := HG.grow G20
  clear G20
  refine V.run T_ok 1 rfl ?_
  refine V.nil ?_
  refine V.tN ?_
  refine V.seq ?_
  refine V.region ?_
  refine V.run T_ok 1 rfl ?_
  refine V.call (new_ok F_splits (fun k hk => by have := hD_splits k hk; omega) (by first | assumption | decide +kernel) (by first | assumption | decide | (intro s hs; simp at hs; omega) | (intro s hs; simp at hs; subst hs; omega))) rfl rfl rfl ?_
  rintro _ w25 ⟨k22, rfl, ⟨h23l, h23u⟩, F24, G26⟩
  have z27 := V.Fr.size G26
  try replace F_splits := F_splits.gr G26
  try replace Fk2 := Fk2.gr G26
  try replace Fk9 := Fk9.gr G26
  replace HG := HG.grow G26
  clear G26
  refine V.run T_ok 5 rfl ?_
  refine V.nil ?_
  refine V.tN ?_
  refine V.seq ?_
  refine V.seq ?_
  refine V.region ?_
  refine V.run T_ok 3 rfl ?_
  refine V.orG T_ok 2 2 35 rfl rfl rfl rfl rfl rfl rfl rfl ?_
  refine V.run T_ok 1 rfl ?_
  refine V.orG T_ok 2 6 39 rfl rfl rfl rfl rfl rfl rfl rfl ?_
  refine V.run T_ok 1 rfl ?_
  refine V.orG T_ok 2 10 43 rfl rfl rfl rfl rfl rfl rfl rfl ?_
  refine V.run T_ok 1 rfl ?_
  refine V.orG T_ok 2 14 47 rfl rfl rfl rfl rfl rfl rfl rfl ?_
  refine V.nil ?_
  refine V.tN ?_
  refine V.condT rfl (fun h5 => ?_) (fun h5 => ?_)
  ·
    try simp only [decide_eq_true_eq, decide_eq_false_iff_not, Bool.or_eq_true, Bool.and_eq_true, Bool.or_eq_false_iff, Bool.and_eq_false_iff, Bool.not_eq_true', Bool.not_eq_false', Int.not_lt, Int.not_le, Decidable.not_not, V.u8eq, V.S_inj, V.S_lit, V.S_lit2, V.bl] at h5
    try simp only [V.mk0, V.mk1, V.mk2, V.mk3] at h5
    refine V.seq ?_
    refine V.region ?_
    refine V.call (alive_spec) rfl rfl rfl ?_
    rintro _ w28 ⟨rfl, G29⟩
    have z30 := V.Fr.size G29
    try replace F_splits := F_splits.gr G29
    try replace Fk2 := Fk2.gr G29
    try replace Fk9 := Fk9.gr G29
    try replace F24 := F24.gr G29
    replace HG := HG.grow G29
    clear G29
    refine V.run T_ok 1 rfl ?_
    refine V.nil ?_
    refine V.tN ?_
    refine V.ret ?_
    refine V.tR ?_
    refine V.done rfl ?_
    exact ⟨(by first | rfl | simp only [List.length_set]), HG⟩
  ·
    try simp only [decide_eq_true_eq, decide_eq_false_iff_not, Bool.or_eq_true, Bool.and_eq_true, Bool.or_eq_false_iff, Bool.and_eq_false_iff, Bool.not_eq_true', Bool.not_eq_false', Int.not_lt, Int.not_le, Decidable.not_not, V.u8eq, V.S_inj, V.S_lit, V.S_lit2, V.bl] at h5
    try simp only [V.mk0, V.mk1, V.mk2, V.mk3] at h5
    refine V.skip ?_
    refine V.tN ?_
    refine V.seq ?_
    refine V.region ?_
    refine V.run T_ok 1 rfl ?_
    refine V.call (all_spec) rfl rfl rfl ?_
    rintro _ w31 ⟨rfl, G32⟩
    have z33 := V.Fr.size G32
    try replace F_splits := F_splits.gr G32
    try replace Fk2 := Fk2.gr G32
    try replace Fk9 := Fk9.gr G32
    try replace F24 := F24.gr G32
    replace HG := HG.grow G32
    clear G32
    refine V.call (parts_spec (f := (S [97])) (t := (S [123])) F24 (by first | omega | decide | (simp only [V.S_size, List.length_cons, List.length_nil]; omega)) (by first | omega | decide | (simp only [V.S_size, List.length_cons, List.length_nil]; omega))) rfl rfl rfl ?_
    rintro _ w37 ⟨a34, c35, rfl, F36, G38⟩
    have z39 := V.Fr.size G38
    try replace F_splits := F_splits.gr G38
    try replace Fk2 := Fk2.gr G38
    try replace Fk9 := Fk9.gr G38
    try replace F24 := F24.gr G38
    replace HG := HG.grow G38
    clear G38
    refine V.run T_ok 1 rfl ?_
    refine V.nil ?_
    refine V.tN ?_
    refine V.seq ?_
    refine V.seq ?_
    have hg := good_bnds hok
    have hbl := bnds_len (sp := splits)
    have hl4 := okB_len hok
    have hal := allV_len (bs := bnds splits) (n := (bnds splits).length - 1)
    have hr40 : ptV (bnds splits) (S [97]) (S [123]) ((bnds splits).length - 1) = allV (bnds splits) ((bnds splits).length - 1) := pt_all hg _ (by omega)
    rw [hr40] at F36 ⊢
    clear hr40
    refine V.region ?_
    refine V.run T_ok 3 rfl ?_
    refine V.call (len_spec F24) rfl rfl rfl ?_
    rintro _ w37_ ⟨rfl, rfl⟩
    refine V.run T_ok 2 rfl ?_
    refine V.splitF (j := 5) (t := 60) rfl rfl (by (exact decide_eq_false (by omega))) ?_
    refine V.run T_ok 1 rfl ?_
    refine V.yes rfl rfl rfl ?_
    refine V.call (len_spec F24) rfl rfl rfl ?_
    rintro _ w37_ ⟨rfl, rfl⟩
    refine V.run T_ok 2 rfl ?_
    refine V.yes rfl rfl rfl ?_
    refine V.addN rfl rfl rfl rfl rfl (by first | omega | (simp only [List.length_take, List.length_drop, List.length_append, List.length_cons, List.length_nil, List.length_replicate, List.length_set, V.length_data, V.S_size]; omega)) (by first | omega | (simp only [List.length_take, List.length_drop, List.length_append, List.length_cons, List.length_nil, List.length_replicate, List.length_set, V.length_data, V.S_size]; omega)) ?_
    refine V.run T_ok 2 rfl ?_
    refine V.nil ?_
    refine V.tN ?_
    refine V.condN rfl (by (simp; omega)) ?_
    refine V.skip ?_
    refine V.tN ?_
    refine V.seq ?_
    refine V.seq ?_
    refine V.region ?_
    refine V.run T_ok 1 rfl ?_
    refine V.nil ?_
    refine V.tN ?_
    refine V.block ?_
    refine V.loopM (fun m e v44 => Fr [] w v44 ∧ w37.heap.size ≤ v44.heap.size ∧ Sl V.Cod.str v44 D_splits a_splits c_splits splits ∧ Cells v44 k1 [.string f, .string t] 24 ∧ Cells v44 k8 [.string f2, .string t2] 24 ∧ Dir v44 k22 (fun j => w19.heap.size ≤ j ∧ j < w25.heap.size) (bnds splits) ∧ V.Row (V.Cod.pair (V.Cod.int .i64) (V.Cod.pair V.Cod.str V.Cod.str)) 48 v44 V.None' w31.heap.size w37.heap.size a34 c35 (allV (bnds splits) ((bnds splits).length - 1)) ∧ ∃ (i : Nat) , m = (bnds splits).length - i ∧ i + 1 ≤ (bnds splits).length ∧ e 0 = .slice a_splits splits.length c_splits ∧ e 4 = .pointer (some ⟨k1, 0, none⟩) ∧ e 5 = .pointer (some ⟨k8, 0, none⟩) ∧ e 10 = .pointer (some ⟨k22, 0, none⟩) ∧ e 12 = .slice a34 (allV (bnds splits) ((bnds splits).length - 1)).length c35 ∧ e 13 = .int .i64 (i : Int)) ?_ ?_
    ·
      exact ⟨_, HG, (by omega), F_splits, Fk2, Fk9, F24, F36, (0), rfl, (by omega), rfl, rfl, rfl, rfl, rfl, rfl⟩
    clear HG F_splits Fk2 Fk9 F24 F36
    rintro _ e v44 ⟨HG, z45, F_splits, Fk2, Fk9, F24, F36, i, rfl, hi, he0_0, he0_4, he0_5, he0_10, he0_12, he0_13⟩
    refine V.knownC (t := 0) he0_0 ?_
    refine V.knownC (t := 4) he0_4 ?_
    refine V.knownC (t := 5) he0_5 ?_
    refine V.knownC (t := 10) he0_10 ?_
    refine V.knownC (t := 12) he0_12 ?_
    refine V.knownC (t := 13) he0_13 ?_
    refine V.seq ?_
    refine V.seq ?_
    refine V.region ?_
    refine V.run T_ok 4 rfl ?_
    refine V.nil ?_
    refine V.tN ?_
    refine V.condT rfl (fun h11 => ?_) (fun h11 => ?_)
    ·
      try simp only [decide_eq_true_eq, decide_eq_false_iff_not, Bool.or_eq_true, Bool.and_eq_true, Bool.or_eq_false_iff, Bool.and_eq_false_iff, Bool.not_eq_true', Bool.not_eq_false', Int.not_lt, Int.not_le, Decidable.not_not, V.u8eq, V.S_inj, V.S_lit, V.S_lit2, V.bl] at h11
      try simp only [V.mk0, V.mk1, V.mk2, V.mk3] at h11
      refine V.skip ?_
      refine V.tN ?_
      refine V.seq ?_
      refine V.block ?_
      refine V.seq ?_
      refine V.region ?_
      refine V.run T_ok 2 rfl ?_
      refine V.call (range_spec (i := (i : Int)) F24) rfl rfl rfl ?_
      rintro _ w46 ⟨rfl, G47⟩
      have z48 := V.Fr.size G47
      try replace F_splits := F_splits.gr G47
      try replace Fk2 := Fk2.gr G47
      try replace Fk9 := Fk9.gr G47
      try replace F24 := F24.gr G47
      try replace F36 := F36.gr G47
      replace HG := HG.grow G47
      clear G47
      refine V.run T_ok 3 rfl ?_
      refine V.alloc zero24 rfl rfl rfl ?_
      rintro k49 w51 s53 s54 G52 Fk50
      have z55 := V.Fr.size G52
      try replace F_splits := F_splits.gr G52
      try replace Fk2 := Fk2.gr G52
      try replace Fk9 := Fk9.gr G52
      try replace F24 := F24.gr G52
      try replace F36 := F36.gr G52
      replace HG := HG.grow G52
      clear G52
      try simp only [V.cellsL, V.spliceL] at Fk50
      refine V.storeO Fk50 rfl rfl rfl rfl sz24 rfl rfl rfl rfl ?_
      rintro w56 G57 z59 Fs58
      clear Fk50
      have z60 := V.Fr.size G57
      first | replace F_splits := F_splits.mv1 G57 (by first | exact (fun h => by have := hD_splits _ h; omega) | omega) | clear F_splits | skip
      first | replace Fk2 := Fk2.mv1 G57 (by omega) | clear Fk2 | skip
      first | replace Fk9 := Fk9.mv1 G57 (by omega) | clear Fk9 | skip
      first | replace F24 := F24.mv1 G57 (by first | exact ⟨by omega, by assumption⟩ | exact ⟨by omega, fun h => absurd h.1 (by assumption)⟩ | exact ⟨by omega, fun h => absurd h.1.1 (by assumption)⟩ | exact ⟨by omega, fun h => by first | (have h2 := h.1; have h3 := h.2; omega) | (have h2 := h; dsimp only at h2; omega)⟩ | first | omega | exact fun h => h | exact ⟨by omega, fun h => h⟩ | (intro h; first | (have := hD_splits _ h; omega)) | (refine ⟨by omega, ?_⟩; intro h; first | (have := hD_splits _ h; omega))) | clear F24 | skip
      first | replace F36 := F36.mv1 G57 (by first | exact ⟨fun h => h, fun h => by have := h.1; have := h.2; omega⟩ | omega) | clear F36 | skip
      replace HG := HG.new1 G57 (by first | (refine Or.inr ?_; omega) | (refine Or.inl ?_; simp; done))
      clear G57
      have Fk50 := Fs58; clear Fs58
      simp only [V.spliceL, V.cellsL] at Fk50
      refine V.run T_ok 1 rfl ?_
      refine V.nil ?_
      refine V.tN ?_
      refine V.seq ?_
      refine V.seq ?_
      have hin : inR (bnds splits) (i : Int) = true := by unfold inR; simp; omega
      refine V.drawQ mixed (by kernel_rfl) ?_
      refine V.qrun T_ok 3 rfl ?_
      refine V.qsplitF (j := 2) (t := 82) rfl rfl (by (simp [hin])) ?_
      refine V.qrun T_ok 2 rfl ?_
      refine V.qyes rfl rfl rfl ?_
      refine V.qelem T_ok F36.sl rfl rfl sz48 rfl rfl rfl rfl (by first | omega | (simp only [List.length_take, List.length_drop, List.length_append, List.length_cons, List.length_nil, List.length_replicate, List.length_set, V.length_data, V.S_size]; omega)) (by first | omega | (simp only [List.length_take, List.length_drop, List.length_append, List.length_cons, List.length_nil, List.length_replicate, List.length_set, V.length_data, V.S_size]; omega)) ?_
      rintro b61 o62 cs63 hx64 hb65 hR68 hA66
      obtain ⟨x67, hx67⟩ : ∃ z', (allV (bnds splits) ((bnds splits).length - 1))[((i : Int)).toNat] = z' := ⟨_, rfl⟩
      rw [hx67] at hR68
      obtain ⟨_, _, rfl, rfl, ⟨_, _, rfl, rfl, rfl⟩⟩ := hR68
      try simp only [Int.toNat_natCast] at hx67 hx64
      refine V.qrun T_ok 1 rfl ?_
      refine V.qyes rfl rfl rfl ?_
      refine V.qloadA T_ok (o0 := o62) (off := 0) hA66 rfl rfl rfl rfl rfl ?_
      refine V.qrun T_ok 4 rfl ?_
      refine V.qsplitF (j := 11) (t := 91) rfl rfl (by (have hxa := allV_at (by assumption : (allV (bnds splits) ((bnds splits).length - 1))[i] = _); simp [hin, hxa])) ?_
      refine V.qrun T_ok 2 rfl ?_
      refine V.qyes rfl rfl rfl ?_
      refine V.qelem T_ok F36.sl rfl rfl sz48 rfl rfl rfl rfl (by first | omega | (simp only [List.length_take, List.length_drop, List.length_append, List.length_cons, List.length_nil, List.length_replicate, List.length_set, V.length_data, V.S_size]; omega)) (by first | omega | (simp only [List.length_take, List.length_drop, List.length_append, List.length_cons, List.length_nil, List.length_replicate, List.length_set, V.length_data, V.S_size]; omega)) ?_
      rintro b69 o70 cs71 hx72 hb73 hR76 hA74
      obtain ⟨x75, hx75⟩ : ∃ z', (allV (bnds splits) ((bnds splits).length - 1))[((i : Int)).toNat] = z' := ⟨_, rfl⟩
      rw [hx75] at hR76
      obtain ⟨_, _, rfl, rfl, ⟨_, _, rfl, rfl, rfl⟩⟩ := hR76
      try simp only [Int.toNat_natCast] at hx75 hx72
      obtain rfl : x67 = x75 := hx67.symm.trans hx75
      refine V.qrun T_ok 1 rfl ?_
      refine V.qyes rfl rfl rfl ?_
      refine V.qloadA T_ok (o0 := o70) (off := 1) hA74 rfl rfl rfl rfl rfl ?_
      refine V.qyes rfl rfl rfl ?_
      refine V.qloadO T_ok Fk50 rfl rfl rfl rfl rfl ?_
      refine V.qyes rfl rfl rfl ?_
      refine V.qstep rfl rfl (fun _ _ => V.neA_run rfl rfl rfl eqG24 (eqS24 _)) ?_
      refine V.qrun T_ok 1 rfl ?_
      refine V.qnil ?_
      rintro w77 G78
      have z79 := V.Fr.size G78
      try replace F_splits := F_splits.gr G78
      try replace Fk2 := Fk2.gr G78
      try replace Fk9 := Fk9.gr G78
      try replace F24 := F24.gr G78
      try replace F36 := F36.gr G78
      try replace Fk50 := Fk50.gr G78
      replace HG := HG.grow G78
      clear G78
      refine V.tN ?_
      refine V.condN rfl (by (have hxa := allV_at (by assumption : (allV (bnds splits) ((bnds splits).length - 1))[i] = _); simp [hin, hxa])) ?_
      refine V.skip ?_
      refine V.tN ?_
      refine V.seq ?_
      refine V.region ?_
      refine V.run T_ok 2 rfl ?_
      refine V.nil ?_
      refine V.tN ?_
      refine V.condT rfl (fun h16 => ?_) (fun h16 => ?_)
      ·
        try simp only [decide_eq_true_eq, decide_eq_false_iff_not, Bool.or_eq_true, Bool.and_eq_true, Bool.or_eq_false_iff, Bool.and_eq_false_iff, Bool.not_eq_true', Bool.not_eq_false', Int.not_lt, Int.not_le, Decidable.not_not, V.u8eq, V.S_inj, V.S_lit, V.S_lit2, V.bl] at h16
        try simp only [V.mk0, V.mk1, V.mk2, V.mk3] at h16
        refine V.seq ?_
        refine V.region ?_
        refine V.run T_ok 3 rfl ?_
        refine V.subN rfl rfl rfl rfl rfl (by first | omega | (simp only [List.length_take, List.length_drop, List.length_append, List.length_cons, List.length_nil, List.length_replicate, List.length_set, V.length_data, V.S_size]; omega)) (by first | omega | (simp only [List.length_take, List.length_drop, List.length_append, List.length_cons, List.length_nil, List.length_replicate, List.length_set, V.length_data, V.S_size]; omega)) ?_
        refine V.elem T_ok F_splits rfl rfl sz9 rfl rfl rfl rfl (by first | omega | (simp only [List.length_take, List.length_drop, List.length_append, List.length_cons, List.length_nil, List.length_replicate, List.length_set, V.length_data, V.S_size]; omega)) (by first | omega | (simp only [List.length_take, List.length_drop, List.length_append, List.length_cons, List.length_nil, List.length_replicate, List.length_set, V.length_data, V.S_size]; omega)) ?_
        rintro b80 o81 cs82 hx83 hb84 hR87 hA85
        obtain ⟨x86, hx86⟩ : ∃ z', splits[((i : Int) - 1).toNat] = z' := ⟨_, rfl⟩
        rw [hx86] at hR87
        obtain rfl := hR87
        try simp only [Int.toNat_natCast] at hx86 hx83
        refine V.loadA T_ok (o0 := o81) (off := 0) hA85 rfl rfl rfl rfl rfl ?_
        have hsp := fd_split hok (i := ((i : Int) - 1).toNat) (by omega) hx86
        have hms := hs x86 (by rw [← hx86]; exact List.getElem_mem _)
        have hii : ((((i : Int) - 1).toNat : Nat) : Int) + 1 = (i : Int) := by omega
        rw [hii] at hsp
        refine V.call (find_spec (key := x86) F24 (by first | omega | decide | (simp only [V.S_size, List.length_cons, List.length_nil]; omega))) rfl rfl rfl ?_
        rintro _ w88 ⟨rfl, G89⟩
        have z90 := V.Fr.size G89
        try replace F_splits := F_splits.gr G89
        try replace Fk2 := Fk2.gr G89
        try replace Fk9 := Fk9.gr G89
        try replace F24 := F24.gr G89
        try replace F36 := F36.gr G89
        try replace Fk50 := Fk50.gr G89
        replace HG := HG.grow G89
        clear G89
        refine V.run T_ok 5 rfl ?_
        refine V.nil ?_
        refine V.tN ?_
        refine V.seq ?_
        refine V.drawQ mixed (by kernel_rfl) ?_
        refine V.qrun T_ok 3 rfl ?_
        refine V.qsplitF (j := 2) (t := 114) rfl rfl (by (simp [hsp.1])) ?_
        refine V.qrun T_ok 5 rfl ?_
        refine V.qsplitF (j := 7) (t := 119) rfl rfl (by (simp [hsp.1, hsp.2.1])) ?_
        refine V.qrun T_ok 1 rfl ?_
        refine V.qyes rfl rfl rfl ?_
        refine V.qloadO T_ok Fk50 rfl rfl rfl rfl rfl ?_
        refine V.qrun T_ok 2 rfl ?_
        refine V.qyes rfl rfl rfl ?_
        refine V.qsubN rfl rfl rfl rfl rfl (by first | omega | (simp only [List.length_take, List.length_drop, List.length_append, List.length_cons, List.length_nil, List.length_replicate, List.length_set, V.length_data, V.S_size]; omega)) (by first | omega | (simp only [List.length_take, List.length_drop, List.length_append, List.length_cons, List.length_nil, List.length_replicate, List.length_set, V.length_data, V.S_size]; omega)) ?_
        refine V.qyes rfl rfl rfl ?_
        refine V.qelem T_ok F_splits rfl rfl sz9 rfl rfl rfl rfl (by first | omega | (simp only [List.length_take, List.length_drop, List.length_append, List.length_cons, List.length_nil, List.length_replicate, List.length_set, V.length_data, V.S_size]; omega)) (by first | omega | (simp only [List.length_take, List.length_drop, List.length_append, List.length_cons, List.length_nil, List.length_replicate, List.length_set, V.length_data, V.S_size]; omega)) ?_
        rintro b91 o92 cs93 hx94 hb95 hR98 hA96
        obtain ⟨x97, hx97⟩ : ∃ z', splits[((i : Int) - 1).toNat] = z' := ⟨_, rfl⟩
        rw [hx97] at hR98
        obtain rfl := hR98
        try simp only [Int.toNat_natCast] at hx97 hx94
        obtain rfl : x86 = x97 := hx86.symm.trans hx97
        refine V.qyes rfl rfl rfl ?_
        refine V.qloadA T_ok (o0 := o92) (off := 0) hA96 rfl rfl rfl rfl rfl ?_
        refine V.qrun T_ok 2 rfl ?_
        refine V.qnil ?_
        rintro w99 G100
        have z101 := V.Fr.size G100
        try replace F_splits := F_splits.gr G100
        try replace Fk2 := Fk2.gr G100
        try replace Fk9 := Fk9.gr G100
        try replace F24 := F24.gr G100
        try replace F36 := F36.gr G100
        try replace Fk50 := Fk50.gr G100
        replace HG := HG.grow G100
        clear G100
        refine V.tN ?_
        refine V.condN rfl (by (simp [hsp.1, hsp.2.1, hsp.2.2])) ?_
        refine V.skip ?_
        refine V.bN ?_
        refine V.tN ?_
        refine V.region ?_
        refine V.run T_ok 1 rfl ?_
        refine V.addN rfl rfl rfl rfl rfl (by first | omega | (simp only [List.length_take, List.length_drop, List.length_append, List.length_cons, List.length_nil, List.length_replicate, List.length_set, V.length_data, V.S_size]; omega)) (by first | omega | (simp only [List.length_take, List.length_drop, List.length_append, List.length_cons, List.length_nil, List.length_replicate, List.length_set, V.length_data, V.S_size]; omega)) ?_
        refine V.run T_ok 1 rfl ?_
        refine V.nil ?_
        refine V.tN ?_
        exact ⟨_, (by omega), HG, (by omega), F_splits, Fk2, Fk9, F24, F36, (i + 1), rfl, (by omega), rfl, rfl, rfl, rfl, rfl, rfl⟩
      ·
        try simp only [decide_eq_true_eq, decide_eq_false_iff_not, Bool.or_eq_true, Bool.and_eq_true, Bool.or_eq_false_iff, Bool.and_eq_false_iff, Bool.not_eq_true', Bool.not_eq_false', Int.not_lt, Int.not_le, Decidable.not_not, V.u8eq, V.S_inj, V.S_lit, V.S_lit2, V.bl] at h16
        try simp only [V.mk0, V.mk1, V.mk2, V.mk3] at h16
        refine V.skip ?_
        refine V.bN ?_
        refine V.tN ?_
        refine V.region ?_
        refine V.run T_ok 1 rfl ?_
        refine V.addN rfl rfl rfl rfl rfl (by first | omega | (simp only [List.length_take, List.length_drop, List.length_append, List.length_cons, List.length_nil, List.length_replicate, List.length_set, V.length_data, V.S_size]; omega)) (by first | omega | (simp only [List.length_take, List.length_drop, List.length_append, List.length_cons, List.length_nil, List.length_replicate, List.length_set, V.length_data, V.S_size]; omega)) ?_
        refine V.run T_ok 1 rfl ?_
        refine V.nil ?_
        refine V.tN ?_
        exact ⟨_, (by omega), HG, (by omega), F_splits, Fk2, Fk9, F24, F36, (i + 1), rfl, (by omega), rfl, rfl, rfl, rfl, rfl, rfl⟩
    ·
      try simp only [decide_eq_true_eq, decide_eq_false_iff_not, Bool.or_eq_true, Bool.and_eq_true, Bool.or_eq_false_iff, Bool.and_eq_false_iff, Bool.not_eq_true', Bool.not_eq_false', Int.not_lt, Int.not_le, Decidable.not_not, V.u8eq, V.S_inj, V.S_lit, V.S_lit2, V.bl] at h11
      try simp only [V.mk0, V.mk1, V.mk2, V.mk3] at h11
      refine V.exit ?_
      refine V.tX ?_
      refine V.tX ?_
      refine V.bE ?_
      refine V.tN ?_
      refine V.seq ?_
      refine V.region ?_
      refine V.run T_ok 1 rfl ?_
      refine V.loadO T_ok Fk2 rfl rfl rfl rfl rfl ?_
      refine V.call (parts_spec (f := f) (t := t) F24 (by first | omega | decide | (simp only [V.S_size, List.length_cons, List.length_nil]; omega)) (by first | omega | decide | (simp only [V.S_size, List.length_cons, List.length_nil]; omega))) rfl rfl rfl ?_
      rintro _ w105 ⟨a102, c103, rfl, F104, G106⟩
      have z107 := V.Fr.size G106
      try replace F_splits := F_splits.gr G106
      try replace Fk2 := Fk2.gr G106
      try replace Fk9 := Fk9.gr G106
      try replace F24 := F24.gr G106
      try replace F36 := F36.gr G106
      replace HG := HG.grow G106
      clear G106
      refine V.run T_ok 1 rfl ?_
      refine V.nil ?_
      refine V.tN ?_
      refine V.seq ?_
      refine V.region ?_
      refine V.run T_ok 1 rfl ?_
      refine V.loadO T_ok Fk9 rfl rfl rfl rfl rfl ?_
      refine V.call (parts_spec (f := f2) (t := t2) F24 (by first | omega | decide | (simp only [V.S_size, List.length_cons, List.length_nil]; omega)) (by first | omega | decide | (simp only [V.S_size, List.length_cons, List.length_nil]; omega))) rfl rfl rfl ?_
      rintro _ w111 ⟨a108, c109, rfl, F110, G112⟩
      have z113 := V.Fr.size G112
      try replace F_splits := F_splits.gr G112
      try replace Fk2 := Fk2.gr G112
      try replace Fk9 := Fk9.gr G112
      try replace F24 := F24.gr G112
      try replace F36 := F36.gr G112
      try replace F104 := F104.gr G112
      replace HG := HG.grow G112
      clear G112
      refine V.run T_ok 1 rfl ?_
      refine V.nil ?_
      refine V.tN ?_
      refine V.seq ?_
      refine V.seq ?_
      refine V.region ?_
      refine V.run T_ok 1 rfl ?_
      refine V.nil ?_
      refine V.tN ?_
      refine V.block ?_
      refine V.loopM (fun m e v115 => Fr [] w v115 ∧ w111.heap.size ≤ v115.heap.size ∧ Sl V.Cod.str v115 D_splits a_splits c_splits splits ∧ Cells v115 k1 [.string f, .string t] 24 ∧ Cells v115 k8 [.string f2, .string t2] 24 ∧ Dir v115 k22 (fun j => w19.heap.size ≤ j ∧ j < w25.heap.size) (bnds splits) ∧ V.Row (V.Cod.pair (V.Cod.int .i64) (V.Cod.pair V.Cod.str V.Cod.str)) 48 v115 V.None' w31.heap.size w37.heap.size a34 c35 (allV (bnds splits) ((bnds splits).length - 1)) ∧ V.Row (V.Cod.pair (V.Cod.int .i64) (V.Cod.pair V.Cod.str V.Cod.str)) 48 v115 V.None' v44.heap.size w105.heap.size a102 c103 (ptV (bnds splits) f t ((bnds splits).length - 1)) ∧ V.Row (V.Cod.pair (V.Cod.int .i64) (V.Cod.pair V.Cod.str V.Cod.str)) 48 v115 V.None' w105.heap.size w111.heap.size a108 c109 (ptV (bnds splits) f2 t2 ((bnds splits).length - 1)) ∧ ∃ (i : Nat) , m = (ptV (bnds splits) f t ((bnds splits).length - 1)).length - i ∧ i ≤ (ptV (bnds splits) f t ((bnds splits).length - 1)).length ∧ e 4 = .pointer (some ⟨k1, 0, none⟩) ∧ e 5 = .pointer (some ⟨k8, 0, none⟩) ∧ e 18 = .slice a102 (ptV (bnds splits) f t ((bnds splits).length - 1)).length c103 ∧ e 19 = .slice a108 (ptV (bnds splits) f2 t2 ((bnds splits).length - 1)).length c109 ∧ e 20 = .int .i64 (i : Int)) ?_ ?_
      ·
        exact ⟨_, HG, (by omega), F_splits, Fk2, Fk9, F24, F36, F104, F110, (0), rfl, (by omega), rfl, rfl, rfl, rfl, rfl⟩
      clear HG F_splits Fk2 Fk9 F24 F36 F104 F110
      rintro _ e v115 ⟨HG, z116, F_splits, Fk2, Fk9, F24, F36, F104, F110, i, rfl, hi1, he1_4, he1_5, he1_18, he1_19, he1_20⟩
      have hpl := ptV_len (bs := bnds splits) (f := f) (t := t) (n := (bnds splits).length - 1)
      refine V.knownC (t := 4) he1_4 ?_
      refine V.knownC (t := 5) he1_5 ?_
      refine V.knownC (t := 18) he1_18 ?_
      refine V.knownC (t := 19) he1_19 ?_
      refine V.knownC (t := 20) he1_20 ?_
      refine V.seq ?_
      refine V.seq ?_
      refine V.region ?_
      refine V.run T_ok 4 rfl ?_
      refine V.nil ?_
      refine V.tN ?_
      refine V.condT rfl (fun h23 => ?_) (fun h23 => ?_)
      ·
        try simp only [decide_eq_true_eq, decide_eq_false_iff_not, Bool.or_eq_true, Bool.and_eq_true, Bool.or_eq_false_iff, Bool.and_eq_false_iff, Bool.not_eq_true', Bool.not_eq_false', Int.not_lt, Int.not_le, Decidable.not_not, V.u8eq, V.S_inj, V.S_lit, V.S_lit2, V.bl] at h23
        try simp only [V.mk0, V.mk1, V.mk2, V.mk3] at h23
        refine V.skip ?_
        refine V.tN ?_
        refine V.seq ?_
        refine V.block ?_
        refine V.seq ?_
        refine V.region ?_
        refine V.run T_ok 1 rfl ?_
        refine V.nil ?_
        refine V.tN ?_
        refine V.block ?_
        refine V.loopM (fun m e v118 => Fr [] w v118 ∧ v115.heap.size ≤ v118.heap.size ∧ Sl V.Cod.str v118 D_splits a_splits c_splits splits ∧ Cells v118 k1 [.string f, .string t] 24 ∧ Cells v118 k8 [.string f2, .string t2] 24 ∧ Dir v118 k22 (fun j => w19.heap.size ≤ j ∧ j < w25.heap.size) (bnds splits) ∧ V.Row (V.Cod.pair (V.Cod.int .i64) (V.Cod.pair V.Cod.str V.Cod.str)) 48 v118 V.None' w31.heap.size w37.heap.size a34 c35 (allV (bnds splits) ((bnds splits).length - 1)) ∧ V.Row (V.Cod.pair (V.Cod.int .i64) (V.Cod.pair V.Cod.str V.Cod.str)) 48 v118 V.None' v44.heap.size w105.heap.size a102 c103 (ptV (bnds splits) f t ((bnds splits).length - 1)) ∧ V.Row (V.Cod.pair (V.Cod.int .i64) (V.Cod.pair V.Cod.str V.Cod.str)) 48 v118 V.None' w105.heap.size w111.heap.size a108 c109 (ptV (bnds splits) f2 t2 ((bnds splits).length - 1)) ∧ ∃ (k : Nat) , m = (ptV (bnds splits) f2 t2 ((bnds splits).length - 1)).length - k ∧ k ≤ (ptV (bnds splits) f2 t2 ((bnds splits).length - 1)).length ∧ e 4 = .pointer (some ⟨k1, 0, none⟩) ∧ e 5 = .pointer (some ⟨k8, 0, none⟩) ∧ e 18 = .slice a102 (ptV (bnds splits) f t ((bnds splits).length - 1)).length c103 ∧ e 19 = .slice a108 (ptV (bnds splits) f2 t2 ((bnds splits).length - 1)).length c109 ∧ e 20 = .int .i64 (i : Int) ∧ e 21 = .int .i64 (k : Int)) ?_ ?_
        ·
          exact ⟨_, HG, (by omega), F_splits, Fk2, Fk9, F24, F36, F104, F110, (0), rfl, (by omega), rfl, rfl, rfl, rfl, rfl, rfl⟩
        clear HG F_splits Fk2 Fk9 F24 F36 F104 F110
        rintro _ e v118 ⟨HG, z119, F_splits, Fk2, Fk9, F24, F36, F104, F110, k, rfl, hk1, he2_4, he2_5, he2_18, he2_19, he2_20, he2_21⟩
        have hpl2 := ptV_len (bs := bnds splits) (f := f2) (t := t2) (n := (bnds splits).length - 1)
        refine V.knownC (t := 4) he2_4 ?_
        refine V.knownC (t := 5) he2_5 ?_
        refine V.knownC (t := 18) he2_18 ?_
        refine V.knownC (t := 19) he2_19 ?_
        refine V.knownC (t := 20) he2_20 ?_
        refine V.knownC (t := 21) he2_21 ?_
        refine V.seq ?_
        refine V.seq ?_
        refine V.region ?_
        refine V.run T_ok 4 rfl ?_
        refine V.nil ?_
        refine V.tN ?_
        refine V.condT rfl (fun h26 => ?_) (fun h26 => ?_)
        ·
          try simp only [decide_eq_true_eq, decide_eq_false_iff_not, Bool.or_eq_true, Bool.and_eq_true, Bool.or_eq_false_iff, Bool.and_eq_false_iff, Bool.not_eq_true', Bool.not_eq_false', Int.not_lt, Int.not_le, Decidable.not_not, V.u8eq, V.S_inj, V.S_lit, V.S_lit2, V.bl] at h26
          try simp only [V.mk0, V.mk1, V.mk2, V.mk3] at h26
          refine V.skip ?_
          refine V.tN ?_
          refine V.seq ?_
          refine V.block ?_
          refine V.seq ?_
          refine V.drawQ mixed (by kernel_rfl) ?_
          refine V.qrun T_ok 2 rfl ?_
          refine V.qelem T_ok F104.sl rfl rfl sz48 rfl rfl rfl rfl (by first | omega | (simp only [List.length_take, List.length_drop, List.length_append, List.length_cons, List.length_nil, List.length_replicate, List.length_set, V.length_data, V.S_size]; omega)) (by first | omega | (simp only [List.length_take, List.length_drop, List.length_append, List.length_cons, List.length_nil, List.length_replicate, List.length_set, V.length_data, V.S_size]; omega)) ?_
          rintro b120 o121 cs122 hx123 hb124 hR127 hA125
          obtain ⟨x126, hx126⟩ : ∃ z', (ptV (bnds splits) f t ((bnds splits).length - 1))[((i : Int)).toNat] = z' := ⟨_, rfl⟩
          rw [hx126] at hR127
          obtain ⟨_, _, rfl, rfl, ⟨_, _, rfl, rfl, rfl⟩⟩ := hR127
          try simp only [Int.toNat_natCast] at hx126 hx123
          refine V.qrun T_ok 1 rfl ?_
          refine V.qloadA T_ok (o0 := o121) (off := 1) hA125 rfl rfl rfl rfl rfl ?_
          refine V.qrun T_ok 2 rfl ?_
          refine V.qelem T_ok F110.sl rfl rfl sz48 rfl rfl rfl rfl (by first | omega | (simp only [List.length_take, List.length_drop, List.length_append, List.length_cons, List.length_nil, List.length_replicate, List.length_set, V.length_data, V.S_size]; omega)) (by first | omega | (simp only [List.length_take, List.length_drop, List.length_append, List.length_cons, List.length_nil, List.length_replicate, List.length_set, V.length_data, V.S_size]; omega)) ?_
          rintro b128 o129 cs130 hx131 hb132 hR135 hA133
          obtain ⟨x134, hx134⟩ : ∃ z', (ptV (bnds splits) f2 t2 ((bnds splits).length - 1))[((k : Int)).toNat] = z' := ⟨_, rfl⟩
          rw [hx134] at hR135
          obtain ⟨_, _, rfl, rfl, ⟨_, _, rfl, rfl, rfl⟩⟩ := hR135
          try simp only [Int.toNat_natCast] at hx134 hx131
          refine V.qrun T_ok 1 rfl ?_
          refine V.qloadA T_ok (o0 := o129) (off := 1) hA133 rfl rfl rfl rfl rfl ?_
          have hpx := pt_size (bnds_ok hok).2.2 hf ht (by omega) hx126
          have hpy := pt_size (bnds_ok hok).2.2 hf2 ht2 (by omega) hx134
          refine V.qcall V.clo (fun w1 g => (meet_spec (f := x126.2.1) (t := x126.2.2) (f2 := x134.2.1) (t2 := x134.2.2) (by first | omega | decide | (simp only [V.S_size, List.length_cons, List.length_nil]; omega)) (by first | omega | decide | (simp only [V.S_size, List.length_cons, List.length_nil]; omega)) (by first | omega | decide | (simp only [V.S_size, List.length_cons, List.length_nil]; omega)) (by first | omega | decide | (simp only [V.S_size, List.length_cons, List.length_nil]; omega)))) rfl rfl rfl ?_
          refine V.qrun T_ok 1 rfl ?_
          refine V.qsplit (j := 11) (t := 158) rfl rfl (fun g28_11 => ?_) (fun g28_11 => ?_)
          ·
            try simp only [decide_eq_true_eq, decide_eq_false_iff_not, Bool.or_eq_true, Bool.and_eq_true, Bool.or_eq_false_iff, Bool.and_eq_false_iff, Bool.not_eq_true', Bool.not_eq_false', Int.not_lt, Int.not_le, Decidable.not_not, V.u8eq, V.S_inj, V.S_lit, V.S_lit2, V.bl] at g28_11
            try simp only [V.mk0, V.mk1, V.mk2, V.mk3] at g28_11
            refine V.qyes rfl rfl rfl ?_
            refine V.qloadO T_ok Fk2 rfl rfl rfl rfl rfl ?_
            refine V.qyes rfl rfl rfl ?_
            refine V.qloadO T_ok Fk9 rfl rfl rfl rfl rfl ?_
            refine V.qyes rfl rfl rfl ?_
            refine V.qcall V.clo (fun w1 g => (meet_spec (f := f) (t := t) (f2 := f2) (t2 := t2) (by first | omega | decide | (simp only [V.S_size, List.length_cons, List.length_nil]; omega)) (by first | omega | decide | (simp only [V.S_size, List.length_cons, List.length_nil]; omega)) (by first | omega | decide | (simp only [V.S_size, List.length_cons, List.length_nil]; omega)) (by first | omega | decide | (simp only [V.S_size, List.length_cons, List.length_nil]; omega)))) rfl rfl rfl ?_
            refine V.qrun T_ok 2 rfl ?_
            refine V.qnil ?_
            rintro w136 G137
            have z138 := V.Fr.size G137
            try replace F_splits := F_splits.gr G137
            try replace Fk2 := Fk2.gr G137
            try replace Fk9 := Fk9.gr G137
            try replace F24 := F24.gr G137
            try replace F36 := F36.gr G137
            try replace F104 := F104.gr G137
            try replace F110 := F110.gr G137
            replace HG := HG.grow G137
            clear G137
            refine V.tN ?_
            refine V.condN rfl (by (first | rfl | (rw [parts_meet (f := f) (t := t) (f2 := f2) (t2 := t2) (n := (bnds splits).length - 1) (m := (bnds splits).length - 1) (i := i) (k := k) (by omega) (by assumption) (by omega) (by assumption) (by assumption)]; rfl))) ?_
            refine V.skip ?_
            refine V.bN ?_
            refine V.tN ?_
            refine V.region ?_
            refine V.run T_ok 1 rfl ?_
            refine V.addN rfl rfl rfl rfl rfl (by first | omega | (simp only [List.length_take, List.length_drop, List.length_append, List.length_cons, List.length_nil, List.length_replicate, List.length_set, V.length_data, V.S_size]; omega)) (by first | omega | (simp only [List.length_take, List.length_drop, List.length_append, List.length_cons, List.length_nil, List.length_replicate, List.length_set, V.length_data, V.S_size]; omega)) ?_
            refine V.run T_ok 1 rfl ?_
            refine V.nil ?_
            refine V.tN ?_
            exact ⟨_, (by omega), HG, (by omega), F_splits, Fk2, Fk9, F24, F36, F104, F110, (k + 1), rfl, (by omega), rfl, rfl, rfl, rfl, rfl, rfl⟩
          ·
            try simp only [decide_eq_true_eq, decide_eq_false_iff_not, Bool.or_eq_true, Bool.and_eq_true, Bool.or_eq_false_iff, Bool.and_eq_false_iff, Bool.not_eq_true', Bool.not_eq_false', Int.not_lt, Int.not_le, Decidable.not_not, V.u8eq, V.S_inj, V.S_lit, V.S_lit2, V.bl] at g28_11
            try simp only [V.mk0, V.mk1, V.mk2, V.mk3] at g28_11
            refine V.qrun T_ok 5 rfl ?_
            refine V.qnil ?_
            rintro w139 G140
            have z141 := V.Fr.size G140
            try replace F_splits := F_splits.gr G140
            try replace Fk2 := Fk2.gr G140
            try replace Fk9 := Fk9.gr G140
            try replace F24 := F24.gr G140
            try replace F36 := F36.gr G140
            try replace F104 := F104.gr G140
            try replace F110 := F110.gr G140
            replace HG := HG.grow G140
            clear G140
            refine V.tN ?_
            refine V.condN rfl (by (first | rfl | (rw [parts_meet (f := f) (t := t) (f2 := f2) (t2 := t2) (n := (bnds splits).length - 1) (m := (bnds splits).length - 1) (i := i) (k := k) (by omega) (by assumption) (by omega) (by assumption) (by assumption)]; rfl))) ?_
            refine V.skip ?_
            refine V.bN ?_
            refine V.tN ?_
            refine V.region ?_
            refine V.run T_ok 1 rfl ?_
            refine V.addN rfl rfl rfl rfl rfl (by first | omega | (simp only [List.length_take, List.length_drop, List.length_append, List.length_cons, List.length_nil, List.length_replicate, List.length_set, V.length_data, V.S_size]; omega)) (by first | omega | (simp only [List.length_take, List.length_drop, List.length_append, List.length_cons, List.length_nil, List.length_replicate, List.length_set, V.length_data, V.S_size]; omega)) ?_
            refine V.run T_ok 1 rfl ?_
            refine V.nil ?_
            refine V.tN ?_
            exact ⟨_, (by omega), HG, (by omega), F_splits, Fk2, Fk9, F24, F36, F104, F110, (k + 1), rfl, (by omega), rfl, rfl, rfl, rfl, rfl, rfl⟩
        ·
          try simp only [decide_eq_true_eq, decide_eq_false_iff_not, Bool.or_eq_true, Bool.and_eq_true, Bool.or_eq_false_iff, Bool.and_eq_false_iff, Bool.not_eq_true', Bool.not_eq_false', Int.not_lt, Int.not_le, Decidable.not_not, V.u8eq, V.S_inj, V.S_lit, V.S_lit2, V.bl] at h26
          try simp only [V.mk0, V.mk1, V.mk2, V.mk3] at h26
          refine V.exit ?_
          refine V.tX ?_
          refine V.tX ?_
          refine V.bE ?_
          refine V.bN ?_
          refine V.tN ?_
          refine V.region ?_
          refine V.run T_ok 1 rfl ?_
          refine V.addN rfl rfl rfl rfl rfl (by first | omega | (simp only [List.length_take, List.length_drop, List.length_append, List.length_cons, List.length_nil, List.length_replicate, List.length_set, V.length_data, V.S_size]; omega)) (by first | omega | (simp only [List.length_take, List.length_drop, List.length_append, List.length_cons, List.length_nil, List.length_replicate, List.length_set, V.length_data, V.S_size]; omega)) ?_
          refine V.run T_ok 1 rfl ?_
          refine V.nil ?_
          refine V.tN ?_
          exact ⟨_, (by omega), HG, (by omega), F_splits, Fk2, Fk9, F24, F36, F104, F110, (i + 1), rfl, (by omega), rfl, rfl, rfl, rfl, rfl⟩
      ·
        try simp only [decide_eq_true_eq, decide_eq_false_iff_not, Bool.or_eq_true, Bool.and_eq_true, Bool.or_eq_false_iff, Bool.and_eq_false_iff, Bool.not_eq_true', Bool.not_eq_false', Int.not_lt, Int.not_le, Decidable.not_not, V.u8eq, V.S_inj, V.S_lit, V.S_lit2, V.bl] at h23
        try simp only [V.mk0, V.mk1, V.mk2, V.mk3] at h23
        refine V.exit ?_
        refine V.tX ?_
        refine V.tX ?_
        refine V.bE ?_
        refine V.tN ?_
        refine V.seq ?_
        refine V.region ?_
        refine V.call (alive_spec) rfl rfl rfl ?_
        rintro _ w142 ⟨rfl, G143⟩
        have z144 := V.Fr.size G143
        try replace F_splits := F_splits.gr G143
        try replace Fk2 := Fk2.gr G143
        try replace Fk9 := Fk9.gr G143
        try replace F24 := F24.gr G143
        try replace F36 := F36.gr G143
        try replace F104 := F104.gr G143
        try replace F110 := F110.gr G143
        replace HG := HG.grow G143
        clear G143
        refine V.run T_ok 1 rfl ?_
        refine V.nil ?_
        refine V.tN ?_
        refine V.ret ?_
        refine V.done rfl ?_
        exact ⟨(by first | rfl | simp only [List.length_set]), HG⟩

theorem directoryWhole_walk {w : World}  {D_splits : Nat → Prop} {c_splits : Nat} {a_splits : Option Addr} {splits : List ByteArray} (F_splits : Sl V.Cod.str w D_splits a_splits c_splits splits) (hD_splits : ∀ k, D_splits k → k < w.heap.size) {f : ByteArray} {t : ByteArray} {f2 : ByteArray} {t2 : ByteArray} (hs : ∀ s ∈ splits, s.size ≤ 9223372036854775807) (hf : f.size ≤ 9223372036854775807) (ht : t.size ≤ 9223372036854775807) (hf2 : f2.size ≤ 9223372036854775807) (ht2 : t2.size ≤ 9223372036854775807) :
    Meets Try.prog 6 [.slice a_splits splits.length c_splits, .agg #[.string f, .string t], .agg #[.string f2, .string t2]] w fun r w' => r = .bool true ∧ Gr w w' := by
  cases hok : okB splits with
  | true => exact directoryWhole_ok F_splits hD_splits hok hs hf ht hf2 ht2
  | false => exact directoryWhole_no F_splits hD_splits hok hs hf ht hf2 ht2

end Go.Proofs.Ytbfaobkahgadaaa
