/- Proved here: walks: what functions of this seat's program return and what they leave of memory, each as a contract. Conditions: stated at each theorem. -/
import Derived.Test.YtbfaobkahgadaaaMl21
namespace Go.Proofs.Ytbfaobkahgadaaa
set_option linter.unusedVariables false
set_option linter.unusedSimpArgs false
open Go
open V (Bytes Meets Env Sl Own Gr Fr Cells S)

theorem sp_at {bs : List ByteArray} (h : Good bs) {n j : Nat} {x : ByteArray × ByteArray} (hn : n + 1 ≤ bs.length) {hj : j < (spV bs n).length} (hx : (spV bs n)[j] = x) : x = rgV bs j := by
  have hj' : j < n := by simpa [spV_len] using hj
  rw [h.rg (by omega)]; subst hx; simp [spV]
theorem rpt_eq {bs : List ByteArray} (h : Good bs) {f t : ByteArray} {n : Nat} (hn : n + 1 ≤ bs.length) : ∀ m, m ≤ n → rptV (spV bs n) f t m = ptV bs f t m
  | 0, _ => rfl
  | m + 1, hm => by
    have hl : m < (spV bs n).length := by rw [spV_len]; omega
    rw [rptV_succ hl rfl, ptV_succ, rpt_eq h hn m (by omega), sp_at h hn (hj := hl) rfl]
theorem rf_eq {bs : List ByteArray} (h : Good bs) {key : ByteArray} : rfI (spV bs (bs.length - 1)) key = fdV bs key ∧ rfB (spV bs (bs.length - 1)) key = isKey key := by
  have hl := h.len
  obtain ⟨m, h1, h2, h3⟩ := h.fd' key
  have hs := spV_len (bs := bs) (n := bs.length - 1)
  have he : ∀ j (hj : j < (spV bs (bs.length - 1)).length), (spV bs (bs.length - 1))[j] = rgV bs j := fun j hj => sp_at h (by omega) rfl
  by_cases hk : isKey key = true
  · obtain ⟨h4, h5⟩ := h2 hk
    have := rf_at (l := spV bs (bs.length - 1)) (key := key) (i := m) (x := rgV bs m) (fun j hj hjm => by
      rw [he j hj]
      cases hc : hasB (rgV bs j).1 (rgV bs j).2 key with
      | false => rfl
      | true => have := (h1 j (by omega)).1 hc; omega) (by omega) (he m (by omega)) ((h1 m h5).2 rfl)
    rw [this.1, this.2, h4, hk]; exact ⟨rfl, rfl⟩
  · have := rf_no (l := spV bs (bs.length - 1)) (key := key) (fun j hj => by
      rw [he j hj]
      cases hc : hasB (rgV bs j).1 (rgV bs j).2 key with
      | false => rfl
      | true => exact absurd (has_iff.1 hc).2.1 hk)
    rw [this.1, this.2]
    exact ⟨by unfold fdV; rw [if_neg hk], by simpa using hk⟩

set_option maxHeartbeats 4000000 in
set_option maxRecDepth 10000 in
theorem directoryTells_no {w : World}  {D_splits : Nat → Prop} {c_splits : Nat} {a_splits : Option Addr} {splits : List ByteArray} (F_splits : Sl V.Cod.str w D_splits a_splits c_splits splits) (hD_splits : ∀ k, D_splits k → k < w.heap.size) {key : ByteArray} {f : ByteArray} {t : ByteArray} (hok : okB splits = false) (hs : ∀ s ∈ splits, s.size ≤ 9223372036854775807) (hk : key.size ≤ 9223372036854775807) (hf : f.size ≤ 9223372036854775807) (ht : t.size ≤ 9223372036854775807) :
    Meets Try.prog 3 [.slice a_splits splits.length c_splits, .string key, .agg #[.string f, .string t]] w fun r w' => r = .bool true ∧ Gr w w' := by
  have HG := V.Fr.refl [] w
  refine V.enter (n := 182) Try.func3 rfl rfl (by decide) rfl ?_
  refine V.seq ?_
  refine V.region ?_
  refine V.box rfl rfl rfl rfl ?_
  rintro k1 w3 s5 s6 G4 Fk2
  have z7 := V.Fr.size G4
  try replace F_splits := F_splits.gr G4
  replace HG := HG.grow G4
  clear G4
  try simp only [V.cellsL, V.spliceL] at Fk2
  refine V.run T_ok 1 rfl ?_
  refine V.nil ?_
  refine V.tN ?_
  refine V.seq ?_
  refine V.region ?_
  refine V.run T_ok 1 rfl ?_
  refine V.call (fits_spec F_splits) rfl rfl rfl ?_
  rintro _ w3_ ⟨rfl, rfl⟩
  refine V.run T_ok 1 rfl ?_
  refine V.nil ?_
  refine V.tN ?_
  refine V.seq ?_
  refine V.region ?_
  refine V.loadO T_ok Fk2 rfl rfl rfl rfl rfl ?_
  refine V.call (Fits_spec (f := f) (t := t)) rfl rfl rfl ?_
  rintro _ w9 ⟨rfl, G10⟩
  have z11 := V.Fr.size G10
  try replace F_splits := F_splits.gr G10
  try replace Fk2 := Fk2.gr G10
  replace HG := HG.grow G10
  clear G10
  refine V.run T_ok 1 rfl ?_
  refine V.nil ?_
  refine V.tN ?_
  refine V.seq ?_
  refine V.seq ?_
  refine V.region ?_
  refine V.run T_ok 3 rfl ?_
  refine V.orG T_ok 2 2 30 rfl rfl rfl rfl rfl rfl rfl rfl ?_
  refine V.run T_ok 1 rfl ?_
  refine V.orG T_ok 3 6 34 rfl rfl rfl rfl rfl rfl rfl rfl ?_
  refine V.nil ?_
  refine V.tN ?_
  refine V.condT rfl (fun h3 => ?_) (fun h3 => ?_)
  ·
    try simp only [decide_eq_true_eq, decide_eq_false_iff_not, Bool.or_eq_true, Bool.and_eq_true, Bool.or_eq_false_iff, Bool.and_eq_false_iff, Bool.not_eq_true', Bool.not_eq_false', Int.not_lt, Int.not_le, Decidable.not_not, V.u8eq, V.S_inj, V.S_lit, V.S_lit2, V.bl] at h3
    try simp only [V.mk0, V.mk1, V.mk2, V.mk3] at h3
    refine V.seq ?_
    refine V.region ?_
    refine V.call (alive_spec) rfl rfl rfl ?_
    rintro _ w12 ⟨rfl, G13⟩
    have z14 := V.Fr.size G13
    try replace F_splits := F_splits.gr G13
    try replace Fk2 := Fk2.gr G13
    replace HG := HG.grow G13
    clear G13
    refine V.run T_ok 1 rfl ?_
    refine V.nil ?_
    refine V.tN ?_
    refine V.ret ?_
    refine V.tR ?_
    refine V.done rfl ?_
    exact ⟨by first | rfl | exact congrArg Value.bool (decide_eq_true rfl), HG⟩
  ·
    try simp only [decide_eq_true_eq, decide_eq_false_iff_not, Bool.or_eq_true, Bool.and_eq_true, Bool.or_eq_false_iff, Bool.and_eq_false_iff, Bool.not_eq_true', Bool.not_eq_false', Int.not_lt, Int.not_le, Decidable.not_not, V.u8eq, V.S_inj, V.S_lit, V.S_lit2, V.bl] at h3
    try simp only [V.mk0, V.mk1, V.mk2, V.mk3] at h3
    refine V.skip ?_
    refine V.tN ?_
    refine V.seq ?_
    refine V.region ?_
    refine V.run T_ok 1 rfl ?_
    refine V.call (new_no F_splits (fun k hk => by have := hD_splits k hk; omega) (by first | assumption | decide +kernel) (by first | assumption | decide | (intro s hs; simp at hs; omega) | (intro s hs; simp at hs; subst hs; omega))) rfl rfl rfl ?_
    rintro _ w15 ⟨rfl, G16⟩
    have z17 := V.Fr.size G16
    try replace F_splits := F_splits.gr G16
    try replace Fk2 := Fk2.gr G16
    replace HG := HG.grow G16
    clear G16
    refine V.run T_ok 5 rfl ?_
    refine V.nil ?_
    refine V.tN ?_
    refine V.seq ?_
    refine V.region ?_
    refine V.run T_ok 1 rfl ?_
    refine V.call (rnew_no F_splits (fun k hk => by have := hD_splits k hk; omega) (by first | assumption | decide +kernel) (by first | assumption | decide | (intro s hs; simp at hs; omega) | (intro s hs; simp at hs; subst hs; omega))) rfl rfl rfl ?_
    rintro _ w18 ⟨rfl, G19⟩
    have z20 := V.Fr.size G19
    try replace F_splits := F_splits.gr G19
    try replace Fk2 := Fk2.gr G19
    replace HG := HG.grow G19
    clear G19
    refine V.run T_ok 5 rfl ?_
    refine V.nil ?_
    refine V.tN ?_
    refine V.seq ?_
    refine V.seq ?_
    refine V.region ?_
    refine V.run T_ok 4 rfl ?_
    refine V.orG T_ok 2 3 53 rfl rfl rfl rfl rfl rfl rfl rfl ?_
    refine V.nil ?_
    refine V.tN ?_
    refine V.condY rfl (by (unfold eNew; split <;> simp)) ?_
    refine V.seq ?_
    refine V.region ?_
    refine V.call (alive_spec) rfl rfl rfl ?_
    rintro _ w21 ⟨rfl, G22⟩
    have z23 := V.Fr.size G22
    try replace F_splits := F_splits.gr G22
    try replace Fk2 := Fk2.gr G22
    replace HG := HG.grow G22
    clear G22
    refine V.run T_ok 6 rfl ?_
    refine V.splitT (j := 6) (t := 63) rfl rfl (by (first | rfl | exact decide_eq_true rfl)) ?_
    refine V.run T_ok 4 rfl ?_
    refine V.nil ?_
    refine V.tN ?_
    refine V.ret ?_
    refine V.tR ?_
    refine V.done rfl ?_
    exact ⟨by first | rfl | exact congrArg Value.bool (decide_eq_true rfl), HG⟩

set_option maxHeartbeats 4000000 in
set_option maxRecDepth 10000 in
theorem directoryTells_ok {w : World}  {D_splits : Nat → Prop} {c_splits : Nat} {a_splits : Option Addr} {splits : List ByteArray} (F_splits : Sl V.Cod.str w D_splits a_splits c_splits splits) (hD_splits : ∀ k, D_splits k → k < w.heap.size) {key : ByteArray} {f : ByteArray} {t : ByteArray} (hok : okB splits = true) (hs : ∀ s ∈ splits, s.size ≤ 9223372036854775807) (hk : key.size ≤ 9223372036854775807) (hf : f.size ≤ 9223372036854775807) (ht : t.size ≤ 9223372036854775807) :
    Meets Try.prog 3 [.slice a_splits splits.length c_splits, .string key, .agg #[.string f, .string t]] w fun r w' => r = .bool true ∧ Gr w w' := by
  have HG := V.Fr.refl [] w
  refine V.enter (n := 182) Try.func3 rfl rfl (by decide) rfl ?_
  refine V.seq ?_
  refine V.region ?_
  refine V.box rfl rfl rfl rfl ?_
  rintro k1 w3 s5 s6 G4 Fk2
  have z7 := V.Fr.size G4
  try replace F_splits := F_splits.gr G4
  replace HG := HG.grow G4
  clear G4
  try simp only [V.cellsL, V.spliceL] at Fk2
  refine V.run T_ok 1 rfl ?_
  refine V.nil ?_
  refine V.tN ?_
  refine V.seq ?_
  refine V.region ?_
  refine V.run T_ok 1 rfl ?_
  refine V.call (fits_spec F_splits) rfl rfl rfl ?_
  rintro _ w3_ ⟨rfl, rfl⟩
  refine V.run T_ok 1 rfl ?_
  refine V.nil ?_
  refine V.tN ?_
  refine V.seq ?_
  refine V.region ?_
  refine V.loadO T_ok Fk2 rfl rfl rfl rfl rfl ?_
  refine V.call (Fits_spec (f := f) (t := t)) rfl rfl rfl ?_
  rintro _ w9 ⟨rfl, G10⟩
  have z11 := V.Fr.size G10
  try replace F_splits := F_splits.gr G10
  try replace Fk2 := Fk2.gr G10
  replace HG := HG.grow G10
  clear G10
  refine V.run T_ok 1 rfl ?_
  refine V.nil ?_
  refine V.tN ?_
  refine V.seq ?_
  refine V.seq ?_
  refine V.region ?_
  refine V.run T_ok 3 rfl ?_
  refine V.orG T_ok 2 2 30 rfl rfl rfl rfl rfl rfl rfl rfl ?_
  refine V.run T_ok 1 rfl ?_
  refine V.orG T_ok 3 6 34 rfl rfl rfl rfl rfl rfl rfl rfl ?_
  refine V.nil ?_
  refine V.tN ?_
  refine V.condT rfl (fun h3 => ?_) (fun h3 => ?_)
  ·
    try simp only [decide_eq_true_eq, decide_eq_false_iff_not, Bool.or_eq_true, Bool.and_eq_true, Bool.or_eq_false_iff, Bool.and_eq_false_iff, Bool.not_eq_true', Bool.not_eq_false', Int.not_lt, Int.not_le, Decidable.not_not, V.u8eq, V.S_inj, V.S_lit, V.S_lit2, V.bl] at h3
    try simp only [V.mk0, V.mk1, V.mk2, V.mk3] at h3
    refine V.seq ?_
    refine V.region ?_
    refine V.call (alive_spec) rfl rfl rfl ?_
    rintro _ w12 ⟨rfl, G13⟩
    have z14 := V.Fr.size G13
    try replace F_splits := F_splits.gr G13
    try replace Fk2 := Fk2.gr G13
    replace HG := HG.grow G13
    clear G13
    refine V.run T_ok 1 rfl ?_
    refine V.nil ?_
    refine V.tN ?_
    refine V.ret ?_
    refine V.tR ?_
    refine V.done rfl ?_
    exact ⟨(by first | rfl | simp only [List.length_set]), HG⟩
  ·
    try simp only [decide_eq_true_eq, decide_eq_false_iff_not, Bool.or_eq_true, Bool.and_eq_true, Bool.or_eq_false_iff, Bool.and_eq_false_iff, Bool.not_eq_true', Bool.not_eq_false', Int.not_lt, Int.not_le, Decidable.not_not, V.u8eq, V.S_inj, V.S_lit, V.S_lit2, V.bl] at h3
    try simp only [V.mk0, V.mk1, V.mk2, V.mk3] at h3
    refine V.skip ?_
    refine V.tN ?_
    refine V.seq ?_
    refine V.region ?_
    refine V.run T_ok 1 rfl ?_
    refine V.call (new_ok F_splits (fun k hk => by have := hD_splits k hk; omega) (by first | assumption | decide +kernel) (by first | assumption | decide | (intro s hs; simp at hs; omega) | (intro s hs; simp at hs; subst hs; omega))) rfl rfl rfl ?_
    rintro _ w18 ⟨k15, rfl, ⟨h16l, h16u⟩, F17, G19⟩
    have z20 := V.Fr.size G19
    try replace F_splits := F_splits.gr G19
    try replace Fk2 := Fk2.gr G19
    replace HG := HG.grow G19
    clear G19
    refine V.run T_ok 5 rfl ?_
    refine V.nil ?_
    refine V.tN ?_
    refine V.seq ?_
    refine V.region ?_
    refine V.run T_ok 1 rfl ?_
    refine V.call (rnew_ok F_splits (fun k hk => by have := hD_splits k hk; omega) (by first | assumption | decide +kernel) (by first | assumption | decide | (intro s hs; simp at hs; omega) | (intro s hs; simp at hs; subst hs; omega))) rfl rfl rfl ?_
    rintro _ w24 ⟨k21, rfl, ⟨h22l, h22u⟩, F23, G25⟩
    have z26 := V.Fr.size G25
    try replace F_splits := F_splits.gr G25
    try replace Fk2 := Fk2.gr G25
    try replace F17 := F17.gr G25
    replace HG := HG.grow G25
    clear G25
    refine V.run T_ok 5 rfl ?_
    refine V.nil ?_
    refine V.tN ?_
    refine V.seq ?_
    refine V.seq ?_
    refine V.region ?_
    refine V.run T_ok 7 rfl ?_
    refine V.nil ?_
    refine V.tN ?_
    refine V.condN rfl rfl ?_
    refine V.skip ?_
    refine V.tN ?_
    refine V.seq ?_
    refine V.seq ?_
    have hg := good_bnds hok
    have hbl := bnds_len (sp := splits)
    have hl4 := okB_len hok
    have hsl := spV_len (bs := bnds splits) (n := splits.length + 1)
    have hb1 : (bnds splits).length - 1 = splits.length + 1 := by omega
    obtain ⟨a27, c28, F29, F30⟩ := F23.ex
    refine V.drawQ mixed (by kernel_rfl) ?_
    refine V.qrun T_ok 1 rfl ?_
    refine V.qcall V.clo (fun w1 g => V.Meets.gr' (len_spec (F17.gr g))) rfl rfl rfl ?_
    refine V.qrun T_ok 3 rfl ?_
    refine V.qloadO T_ok F29 rfl rfl rfl rfl rfl ?_
    refine V.qrun T_ok 2 rfl ?_
    refine V.qnil ?_
    rintro w31 G32
    have z33 := V.Fr.size G32
    try replace F_splits := F_splits.gr G32
    try replace Fk2 := Fk2.gr G32
    try replace F17 := F17.gr G32
    try replace F23 := F23.gr G32
    try replace F29 := F29.gr G32
    try replace F30 := F30.gr G32
    replace HG := HG.grow G32
    clear G32
    refine V.tN ?_
    refine V.condN rfl (by (exact decide_eq_false (by omega))) ?_
    refine V.skip ?_
    refine V.tN ?_
    refine V.seq ?_
    refine V.seq ?_
    refine V.region ?_
    refine V.run T_ok 1 rfl ?_
    refine V.nil ?_
    refine V.tN ?_
    refine V.block ?_
    refine V.loopM (fun m e v35 => Fr [] w v35 ∧ w31.heap.size ≤ v35.heap.size ∧ Sl V.Cod.str v35 D_splits a_splits c_splits splits ∧ Cells v35 k1 [.string f, .string t] 24 ∧ Dir v35 k15 (fun j => w9.heap.size ≤ j ∧ j < w18.heap.size) (bnds splits) ∧ RDir v35 k21 (fun j => w18.heap.size ≤ j ∧ j < w24.heap.size) (spV (bnds splits) (splits.length + 1)) ∧ Cells v35 k21 [.slice a27 (spV (bnds splits) (splits.length + 1)).length c28] 38 ∧ Sl (V.Cod.pair V.Cod.str V.Cod.str) v35 (fun j => w18.heap.size ≤ j ∧ j < w24.heap.size) a27 c28 (spV (bnds splits) (splits.length + 1)) ∧ ∃ (i : Nat) , m = (spV (bnds splits) (splits.length + 1)).length + 2 - i ∧ i ≤ (spV (bnds splits) (splits.length + 1)).length + 2 ∧ e 1 = .string key ∧ e 5 = .pointer (some ⟨k1, 0, none⟩) ∧ e 9 = .pointer (some ⟨k15, 0, none⟩) ∧ e 11 = .pointer (some ⟨k21, 0, none⟩) ∧ e 13 = .int .i64 ((i : Int) - 1)) ?_ ?_
    ·
      exact ⟨_, HG, (by omega), F_splits, Fk2, F17, F23, F29, F30, (0), rfl, (by omega), rfl, rfl, rfl, rfl, rfl⟩
    clear HG F_splits Fk2 F17 F23 F29 F30
    rintro _ e v35 ⟨HG, z36, F_splits, Fk2, F17, F23, F29, F30, i, rfl, hi, he0_1, he0_5, he0_9, he0_11, he0_13⟩
    refine V.knownC (t := 1) he0_1 ?_
    refine V.knownC (t := 5) he0_5 ?_
    refine V.knownC (t := 9) he0_9 ?_
    refine V.knownC (t := 11) he0_11 ?_
    refine V.knownC (t := 13) he0_13 ?_
    refine V.seq ?_
    refine V.seq ?_
    refine V.region ?_
    refine V.run T_ok 4 rfl ?_
    refine V.loadO T_ok F29 rfl rfl rfl rfl rfl ?_
    refine V.run T_ok 2 rfl ?_
    refine V.nil ?_
    refine V.tN ?_
    refine V.condT rfl (fun h12 => ?_) (fun h12 => ?_)
    ·
      try simp only [decide_eq_true_eq, decide_eq_false_iff_not, Bool.or_eq_true, Bool.and_eq_true, Bool.or_eq_false_iff, Bool.and_eq_false_iff, Bool.not_eq_true', Bool.not_eq_false', Int.not_lt, Int.not_le, Decidable.not_not, V.u8eq, V.S_inj, V.S_lit, V.S_lit2, V.bl] at h12
      try simp only [V.mk0, V.mk1, V.mk2, V.mk3] at h12
      refine V.skip ?_
      refine V.tN ?_
      refine V.seq ?_
      refine V.block ?_
      refine V.seq ?_
      refine V.region ?_
      refine V.run T_ok 2 rfl ?_
      refine V.call (range_spec (i := ((i : Int) - 1)) F17) rfl rfl rfl ?_
      rintro _ w37 ⟨rfl, G38⟩
      have z39 := V.Fr.size G38
      try replace F_splits := F_splits.gr G38
      try replace Fk2 := Fk2.gr G38
      try replace F17 := F17.gr G38
      try replace F23 := F23.gr G38
      try replace F29 := F29.gr G38
      try replace F30 := F30.gr G38
      replace HG := HG.grow G38
      clear G38
      refine V.run T_ok 3 rfl ?_
      refine V.alloc zero24 rfl rfl rfl ?_
      rintro k40 w42 s44 s45 G43 Fk41
      have z46 := V.Fr.size G43
      try replace F_splits := F_splits.gr G43
      try replace Fk2 := Fk2.gr G43
      try replace F17 := F17.gr G43
      try replace F23 := F23.gr G43
      try replace F29 := F29.gr G43
      try replace F30 := F30.gr G43
      replace HG := HG.grow G43
      clear G43
      try simp only [V.cellsL, V.spliceL] at Fk41
      refine V.storeO Fk41 rfl rfl rfl rfl sz24 rfl rfl rfl rfl ?_
      rintro w47 G48 z50 Fs49
      clear Fk41
      have z51 := V.Fr.size G48
      first | replace F_splits := F_splits.mv1 G48 (by first | exact (fun h => by have := hD_splits _ h; omega) | omega) | clear F_splits | skip
      first | replace Fk2 := Fk2.mv1 G48 (by omega) | clear Fk2 | skip
      first | replace F17 := F17.mv1 G48 (by first | exact ⟨by omega, by assumption⟩ | exact ⟨by omega, fun h => absurd h.1 (by assumption)⟩ | exact ⟨by omega, fun h => absurd h.1.1 (by assumption)⟩ | exact ⟨by omega, fun h => by first | (have h2 := h.1; have h3 := h.2; omega) | (have h2 := h; dsimp only at h2; omega)⟩ | first | omega | exact fun h => h | exact ⟨by omega, fun h => h⟩ | (intro h; first | (have := hD_splits _ h; omega)) | (refine ⟨by omega, ?_⟩; intro h; first | (have := hD_splits _ h; omega))) | clear F17 | skip
      first | replace F23 := F23.mv1 G48 (by first | exact ⟨by omega, by assumption⟩ | exact ⟨by omega, fun h => absurd h.1 (by assumption)⟩ | exact ⟨by omega, fun h => absurd h.1.1 (by assumption)⟩ | exact ⟨by omega, fun h => by first | (have h2 := h.1; have h3 := h.2; omega) | (have h2 := h; dsimp only at h2; omega)⟩ | first | omega | exact fun h => h | exact ⟨by omega, fun h => h⟩ | (intro h; first | (have := hD_splits _ h; omega)) | (refine ⟨by omega, ?_⟩; intro h; first | (have := hD_splits _ h; omega))) | clear F23 | skip
      first | replace F29 := F29.mv1 G48 (by omega) | clear F29 | skip
      first | replace F30 := F30.mv1 G48 (by first | exact (fun h => by have := h.1; have := h.2; omega) | exact (fun h => by omega) | exact (fun h => by have := h.1.1; have := h.1.2; omega) | exact (fun h => h.2 rfl) | exact (fun h => hnk h.1) | first | omega | exact fun h => h | exact ⟨by omega, fun h => h⟩ | (intro h; first | (have := hD_splits _ h; omega)) | (refine ⟨by omega, ?_⟩; intro h; first | (have := hD_splits _ h; omega))) | clear F30 | skip
      replace HG := HG.new1 G48 (by first | (refine Or.inr ?_; omega) | (refine Or.inl ?_; simp; done))
      clear G48
      have Fk41 := Fs49; clear Fs49
      simp only [V.spliceL, V.cellsL] at Fk41
      refine V.run T_ok 1 rfl ?_
      refine V.nil ?_
      refine V.tN ?_
      refine V.seq ?_
      refine V.region ?_
      refine V.run T_ok 3 rfl ?_
      refine V.split (j := 2) (t := 92) rfl rfl (fun g15_2 => ?_) (fun g15_2 => ?_)
      ·
        try simp only [decide_eq_true_eq, decide_eq_false_iff_not, Bool.or_eq_true, Bool.and_eq_true, Bool.or_eq_false_iff, Bool.and_eq_false_iff, Bool.not_eq_true', Bool.not_eq_false', Int.not_lt, Int.not_le, Decidable.not_not, V.u8eq, V.S_inj, V.S_lit, V.S_lit2, V.bl] at g15_2
        try simp only [V.mk0, V.mk1, V.mk2, V.mk3] at g15_2
        refine V.run T_ok 4 rfl ?_
        refine V.yes rfl rfl rfl ?_
        refine V.loadO T_ok F29 rfl rfl rfl rfl rfl ?_
        refine V.run T_ok 4 rfl ?_
        refine V.nil ?_
        refine V.tN ?_
        refine V.seq ?_
        refine V.drawQ mixed (by kernel_rfl) ?_
        refine V.qrun T_ok 4 rfl ?_
        refine V.qsplitF (j := 3) (t := 104) rfl rfl (by (have e : inR (bnds splits) ((i : Int) - 1) = (decide (0 ≤ (i : Int) - 1) && decide ((i : Int) - 1 < ((spV (bnds splits) (splits.length + 1)).length : Int))) := (by unfold inR; rw [Bool.eq_iff_iff]; simp only [Bool.and_eq_true, decide_eq_true_eq]; omega); rw [e]; first | (rw [decide_eq_true (show (0 : Int) ≤ (i : Int) - 1 by omega)]; simp) | (rw [decide_eq_false (show ¬ (0 : Int) ≤ (i : Int) - 1 by omega)]; simp))) ?_
        refine V.qrun T_ok 2 rfl ?_
        refine V.qsplit (j := 5) (t := 106) rfl rfl (fun g16_5 => ?_) (fun g16_5 => ?_)
        ·
          try simp only [decide_eq_true_eq, decide_eq_false_iff_not, Bool.or_eq_true, Bool.and_eq_true, Bool.or_eq_false_iff, Bool.and_eq_false_iff, Bool.not_eq_true', Bool.not_eq_false', Int.not_lt, Int.not_le, Decidable.not_not, V.u8eq, V.S_inj, V.S_lit, V.S_lit2, V.bl] at g16_5
          try simp only [V.mk0, V.mk1, V.mk2, V.mk3] at g16_5
          have hir := g16_5
          unfold inR at hir
          simp only [Bool.and_eq_true, decide_eq_true_eq] at hir
          refine V.qyes rfl rfl rfl ?_
          refine V.qloadO T_ok Fk41 rfl rfl rfl rfl rfl ?_
          refine V.qrun T_ok 3 rfl ?_
          refine V.qyes rfl rfl rfl ?_
          refine V.qloadO T_ok F29 rfl rfl rfl rfl rfl ?_
          refine V.qrun T_ok 1 rfl ?_
          refine V.qyes rfl rfl rfl ?_
          refine V.qelem T_ok F30 rfl rfl sz24 rfl rfl rfl rfl (by first | omega | (simp only [List.length_take, List.length_drop, List.length_append, List.length_cons, List.length_nil, List.length_replicate, List.length_set, V.length_data, V.S_size]; omega)) (by first | omega | (simp only [List.length_take, List.length_drop, List.length_append, List.length_cons, List.length_nil, List.length_replicate, List.length_set, V.length_data, V.S_size]; omega)) ?_
          rintro b52 o53 cs54 hx55 hb56 hR59 hA57
          obtain ⟨x58, hx58⟩ : ∃ z', (spV (bnds splits) (splits.length + 1))[((i : Int) - 1).toNat] = z' := ⟨_, rfl⟩
          rw [hx58] at hR59
          obtain ⟨_, _, rfl, rfl, rfl⟩ := hR59
          try simp only [Int.toNat_natCast] at hx58 hx55
          refine V.qyes rfl rfl rfl ?_
          refine V.qloadA T_ok (o0 := o53) (off := 0) hA57 rfl rfl rfl rfl rfl ?_
          refine V.qyes rfl rfl rfl ?_
          refine V.qstep rfl rfl (fun _ _ => V.neA_run rfl rfl rfl eqG24 (eqS24 _)) ?_
          refine V.qrun T_ok 2 rfl ?_
          refine V.qnil ?_
          rintro w60 G61
          have z62 := V.Fr.size G61
          try replace F_splits := F_splits.gr G61
          try replace Fk2 := Fk2.gr G61
          try replace F17 := F17.gr G61
          try replace F23 := F23.gr G61
          try replace F29 := F29.gr G61
          try replace F30 := F30.gr G61
          try replace Fk41 := Fk41.gr G61
          replace HG := HG.grow G61
          clear G61
          refine V.tN ?_
          refine V.condN rfl (by (first | rfl | (have hz := sp_at hg (by omega) (by assumption : (spV (bnds splits) (splits.length + 1))[((i : Int) - 1).toNat] = _); have hii : ((((i : Int) - 1).toNat : Nat) : Int) = (i : Int) - 1 := (by omega); rw [hii] at hz; simp [hz]))) ?_
          refine V.skip ?_
          refine V.bN ?_
          refine V.tN ?_
          refine V.region ?_
          refine V.run T_ok 1 rfl ?_
          refine V.addN rfl rfl rfl rfl rfl (by first | omega | (simp only [List.length_take, List.length_drop, List.length_append, List.length_cons, List.length_nil, List.length_replicate, List.length_set, V.length_data, V.S_size]; omega)) (by first | omega | (simp only [List.length_take, List.length_drop, List.length_append, List.length_cons, List.length_nil, List.length_replicate, List.length_set, V.length_data, V.S_size]; omega)) ?_
          refine V.run T_ok 1 rfl ?_
          refine V.nil ?_
          refine V.tN ?_
          exact ⟨_, (by omega), HG, (by omega), F_splits, Fk2, F17, F23, F29, F30, (i + 1), rfl, (by omega), rfl, rfl, rfl, rfl, (congrArg (Value.int .i64) (by omega))⟩
        ·
          try simp only [decide_eq_true_eq, decide_eq_false_iff_not, Bool.or_eq_true, Bool.and_eq_true, Bool.or_eq_false_iff, Bool.and_eq_false_iff, Bool.not_eq_true', Bool.not_eq_false', Int.not_lt, Int.not_le, Decidable.not_not, V.u8eq, V.S_inj, V.S_lit, V.S_lit2, V.bl] at g16_5
          try simp only [V.mk0, V.mk1, V.mk2, V.mk3] at g16_5
          refine V.qrun T_ok 11 rfl ?_
          refine V.qnil ?_
          rintro w63 G64
          have z65 := V.Fr.size G64
          try replace F_splits := F_splits.gr G64
          try replace Fk2 := Fk2.gr G64
          try replace F17 := F17.gr G64
          try replace F23 := F23.gr G64
          try replace F29 := F29.gr G64
          try replace F30 := F30.gr G64
          try replace Fk41 := Fk41.gr G64
          replace HG := HG.grow G64
          clear G64
          refine V.tN ?_
          refine V.condN rfl (by (first | rfl | (have hz := sp_at hg (by omega) (by assumption : (spV (bnds splits) (splits.length + 1))[((i : Int) - 1).toNat] = _); have hii : ((((i : Int) - 1).toNat : Nat) : Int) = (i : Int) - 1 := (by omega); rw [hii] at hz; simp [hz]))) ?_
          refine V.skip ?_
          refine V.bN ?_
          refine V.tN ?_
          refine V.region ?_
          refine V.run T_ok 1 rfl ?_
          refine V.addN rfl rfl rfl rfl rfl (by first | omega | (simp only [List.length_take, List.length_drop, List.length_append, List.length_cons, List.length_nil, List.length_replicate, List.length_set, V.length_data, V.S_size]; omega)) (by first | omega | (simp only [List.length_take, List.length_drop, List.length_append, List.length_cons, List.length_nil, List.length_replicate, List.length_set, V.length_data, V.S_size]; omega)) ?_
          refine V.run T_ok 1 rfl ?_
          refine V.nil ?_
          refine V.tN ?_
          exact ⟨_, (by omega), HG, (by omega), F_splits, Fk2, F17, F23, F29, F30, (i + 1), rfl, (by omega), rfl, rfl, rfl, rfl, (congrArg (Value.int .i64) (by omega))⟩
      ·
        try simp only [decide_eq_true_eq, decide_eq_false_iff_not, Bool.or_eq_true, Bool.and_eq_true, Bool.or_eq_false_iff, Bool.and_eq_false_iff, Bool.not_eq_true', Bool.not_eq_false', Int.not_lt, Int.not_le, Decidable.not_not, V.u8eq, V.S_inj, V.S_lit, V.S_lit2, V.bl] at g15_2
        try simp only [V.mk0, V.mk1, V.mk2, V.mk3] at g15_2
        refine V.run T_ok 9 rfl ?_
        refine V.nil ?_
        refine V.tN ?_
        refine V.seq ?_
        refine V.drawQ mixed (by kernel_rfl) ?_
        refine V.qrun T_ok 4 rfl ?_
        refine V.qsplitF (j := 3) (t := 104) rfl rfl (by (have e : inR (bnds splits) ((i : Int) - 1) = (decide (0 ≤ (i : Int) - 1) && decide ((i : Int) - 1 < ((spV (bnds splits) (splits.length + 1)).length : Int))) := (by unfold inR; rw [Bool.eq_iff_iff]; simp only [Bool.and_eq_true, decide_eq_true_eq]; omega); rw [e]; first | (rw [decide_eq_true (show (0 : Int) ≤ (i : Int) - 1 by omega)]; simp) | (rw [decide_eq_false (show ¬ (0 : Int) ≤ (i : Int) - 1 by omega)]; simp))) ?_
        refine V.qrun T_ok 2 rfl ?_
        refine V.qsplit (j := 5) (t := 106) rfl rfl (fun g16_5 => ?_) (fun g16_5 => ?_)
        ·
          try simp only [decide_eq_true_eq, decide_eq_false_iff_not, Bool.or_eq_true, Bool.and_eq_true, Bool.or_eq_false_iff, Bool.and_eq_false_iff, Bool.not_eq_true', Bool.not_eq_false', Int.not_lt, Int.not_le, Decidable.not_not, V.u8eq, V.S_inj, V.S_lit, V.S_lit2, V.bl] at g16_5
          try simp only [V.mk0, V.mk1, V.mk2, V.mk3] at g16_5
          have hir := g16_5
          unfold inR at hir
          simp only [Bool.and_eq_true, decide_eq_true_eq] at hir
          refine V.qyes rfl rfl rfl ?_
          refine V.qloadO T_ok Fk41 rfl rfl rfl rfl rfl ?_
          refine V.qrun T_ok 3 rfl ?_
          refine V.qyes rfl rfl rfl ?_
          refine V.qloadO T_ok F29 rfl rfl rfl rfl rfl ?_
          refine V.qrun T_ok 1 rfl ?_
          refine V.qyes rfl rfl rfl ?_
          refine V.qelem T_ok F30 rfl rfl sz24 rfl rfl rfl rfl (by first | omega | (simp only [List.length_take, List.length_drop, List.length_append, List.length_cons, List.length_nil, List.length_replicate, List.length_set, V.length_data, V.S_size]; omega)) (by first | omega | (simp only [List.length_take, List.length_drop, List.length_append, List.length_cons, List.length_nil, List.length_replicate, List.length_set, V.length_data, V.S_size]; omega)) ?_
          rintro b66 o67 cs68 hx69 hb70 hR73 hA71
          obtain ⟨x72, hx72⟩ : ∃ z', (spV (bnds splits) (splits.length + 1))[((i : Int) - 1).toNat] = z' := ⟨_, rfl⟩
          rw [hx72] at hR73
          obtain ⟨_, _, rfl, rfl, rfl⟩ := hR73
          try simp only [Int.toNat_natCast] at hx72 hx69
          refine V.qyes rfl rfl rfl ?_
          refine V.qloadA T_ok (o0 := o67) (off := 0) hA71 rfl rfl rfl rfl rfl ?_
          refine V.qyes rfl rfl rfl ?_
          refine V.qstep rfl rfl (fun _ _ => V.neA_run rfl rfl rfl eqG24 (eqS24 _)) ?_
          refine V.qrun T_ok 2 rfl ?_
          refine V.qnil ?_
          rintro w74 G75
          have z76 := V.Fr.size G75
          try replace F_splits := F_splits.gr G75
          try replace Fk2 := Fk2.gr G75
          try replace F17 := F17.gr G75
          try replace F23 := F23.gr G75
          try replace F29 := F29.gr G75
          try replace F30 := F30.gr G75
          try replace Fk41 := Fk41.gr G75
          replace HG := HG.grow G75
          clear G75
          refine V.tN ?_
          refine V.condN rfl (by (first | rfl | (have hz := sp_at hg (by omega) (by assumption : (spV (bnds splits) (splits.length + 1))[((i : Int) - 1).toNat] = _); have hii : ((((i : Int) - 1).toNat : Nat) : Int) = (i : Int) - 1 := (by omega); rw [hii] at hz; simp [hz]))) ?_
          refine V.skip ?_
          refine V.bN ?_
          refine V.tN ?_
          refine V.region ?_
          refine V.run T_ok 1 rfl ?_
          refine V.addN rfl rfl rfl rfl rfl (by first | omega | (simp only [List.length_take, List.length_drop, List.length_append, List.length_cons, List.length_nil, List.length_replicate, List.length_set, V.length_data, V.S_size]; omega)) (by first | omega | (simp only [List.length_take, List.length_drop, List.length_append, List.length_cons, List.length_nil, List.length_replicate, List.length_set, V.length_data, V.S_size]; omega)) ?_
          refine V.run T_ok 1 rfl ?_
          refine V.nil ?_
          refine V.tN ?_
          exact ⟨_, (by omega), HG, (by omega), F_splits, Fk2, F17, F23, F29, F30, (i + 1), rfl, (by omega), rfl, rfl, rfl, rfl, (congrArg (Value.int .i64) (by omega))⟩
        ·
          try simp only [decide_eq_true_eq, decide_eq_false_iff_not, Bool.or_eq_true, Bool.and_eq_true, Bool.or_eq_false_iff, Bool.and_eq_false_iff, Bool.not_eq_true', Bool.not_eq_false', Int.not_lt, Int.not_le, Decidable.not_not, V.u8eq, V.S_inj, V.S_lit, V.S_lit2, V.bl] at g16_5
          try simp only [V.mk0, V.mk1, V.mk2, V.mk3] at g16_5
          refine V.qrun T_ok 11 rfl ?_
          refine V.qnil ?_
          rintro w77 G78
          have z79 := V.Fr.size G78
          try replace F_splits := F_splits.gr G78
          try replace Fk2 := Fk2.gr G78
          try replace F17 := F17.gr G78
          try replace F23 := F23.gr G78
          try replace F29 := F29.gr G78
          try replace F30 := F30.gr G78
          try replace Fk41 := Fk41.gr G78
          replace HG := HG.grow G78
          clear G78
          refine V.tN ?_
          refine V.condN rfl (by (first | rfl | (have hz := sp_at hg (by omega) (by assumption : (spV (bnds splits) (splits.length + 1))[((i : Int) - 1).toNat] = _); have hii : ((((i : Int) - 1).toNat : Nat) : Int) = (i : Int) - 1 := (by omega); rw [hii] at hz; simp [hz]))) ?_
          refine V.skip ?_
          refine V.bN ?_
          refine V.tN ?_
          refine V.region ?_
          refine V.run T_ok 1 rfl ?_
          refine V.addN rfl rfl rfl rfl rfl (by first | omega | (simp only [List.length_take, List.length_drop, List.length_append, List.length_cons, List.length_nil, List.length_replicate, List.length_set, V.length_data, V.S_size]; omega)) (by first | omega | (simp only [List.length_take, List.length_drop, List.length_append, List.length_cons, List.length_nil, List.length_replicate, List.length_set, V.length_data, V.S_size]; omega)) ?_
          refine V.run T_ok 1 rfl ?_
          refine V.nil ?_
          refine V.tN ?_
          exact ⟨_, (by omega), HG, (by omega), F_splits, Fk2, F17, F23, F29, F30, (i + 1), rfl, (by omega), rfl, rfl, rfl, rfl, (congrArg (Value.int .i64) (by omega))⟩
    ·
      try simp only [decide_eq_true_eq, decide_eq_false_iff_not, Bool.or_eq_true, Bool.and_eq_true, Bool.or_eq_false_iff, Bool.and_eq_false_iff, Bool.not_eq_true', Bool.not_eq_false', Int.not_lt, Int.not_le, Decidable.not_not, V.u8eq, V.S_inj, V.S_lit, V.S_lit2, V.bl] at h12
      try simp only [V.mk0, V.mk1, V.mk2, V.mk3] at h12
      refine V.exit ?_
      refine V.tX ?_
      refine V.tX ?_
      refine V.bE ?_
      refine V.tN ?_
      refine V.seq ?_
      refine V.region ?_
      refine V.run T_ok 2 rfl ?_
      refine V.call (find_spec (key := key) F17 (by first | omega | decide | (simp only [V.S_size, List.length_cons, List.length_nil]; omega))) rfl rfl rfl ?_
      rintro _ w80 ⟨rfl, G81⟩
      have z82 := V.Fr.size G81
      try replace F_splits := F_splits.gr G81
      try replace Fk2 := Fk2.gr G81
      try replace F17 := F17.gr G81
      try replace F23 := F23.gr G81
      try replace F29 := F29.gr G81
      try replace F30 := F30.gr G81
      replace HG := HG.grow G81
      clear G81
      refine V.run T_ok 5 rfl ?_
      refine V.nil ?_
      refine V.tN ?_
      refine V.seq ?_
      refine V.region ?_
      refine V.run T_ok 2 rfl ?_
      refine V.call (rfind_spec (key := key) F23 (by first | omega | decide | (simp only [V.S_size, List.length_cons, List.length_nil]; omega))) rfl rfl rfl ?_
      rintro _ w83 ⟨rfl, G84⟩
      have z85 := V.Fr.size G84
      try replace F_splits := F_splits.gr G84
      try replace Fk2 := Fk2.gr G84
      try replace F17 := F17.gr G84
      try replace F23 := F23.gr G84
      try replace F29 := F29.gr G84
      try replace F30 := F30.gr G84
      replace HG := HG.grow G84
      clear G84
      refine V.run T_ok 5 rfl ?_
      refine V.nil ?_
      refine V.tN ?_
      refine V.seq ?_
      refine V.region ?_
      refine V.run T_ok 1 rfl ?_
      refine V.loadO T_ok Fk2 rfl rfl rfl rfl rfl ?_
      refine V.call (parts_spec (f := f) (t := t) F17 (by first | omega | decide | (simp only [V.S_size, List.length_cons, List.length_nil]; omega)) (by first | omega | decide | (simp only [V.S_size, List.length_cons, List.length_nil]; omega))) rfl rfl rfl ?_
      rintro _ w89 ⟨a86, c87, rfl, F88, G90⟩
      have z91 := V.Fr.size G90
      try replace F_splits := F_splits.gr G90
      try replace Fk2 := Fk2.gr G90
      try replace F17 := F17.gr G90
      try replace F23 := F23.gr G90
      try replace F29 := F29.gr G90
      try replace F30 := F30.gr G90
      replace HG := HG.grow G90
      clear G90
      refine V.run T_ok 1 rfl ?_
      refine V.nil ?_
      refine V.tN ?_
      refine V.seq ?_
      refine V.region ?_
      refine V.run T_ok 1 rfl ?_
      refine V.loadO T_ok Fk2 rfl rfl rfl rfl rfl ?_
      refine V.call (rparts_spec (f := f) (t := t) F23 (by first | omega | decide | (simp only [V.S_size, List.length_cons, List.length_nil]; omega)) (by first | omega | decide | (simp only [V.S_size, List.length_cons, List.length_nil]; omega))) rfl rfl rfl ?_
      rintro _ w95 ⟨a92, c93, rfl, F94, G96⟩
      have z97 := V.Fr.size G96
      try replace F_splits := F_splits.gr G96
      try replace Fk2 := Fk2.gr G96
      try replace F17 := F17.gr G96
      try replace F23 := F23.gr G96
      try replace F29 := F29.gr G96
      try replace F30 := F30.gr G96
      try replace F88 := F88.gr G96
      replace HG := HG.grow G96
      clear G96
      refine V.run T_ok 1 rfl ?_
      refine V.nil ?_
      refine V.tN ?_
      refine V.seq ?_
      refine V.seq ?_
      have hrf := rf_eq hg (key := key)
      rw [hb1] at hrf
      have hpl := ptV_len (bs := bnds splits) (f := f) (t := t) (n := (bnds splits).length - 1)
      have hr98 : rptV (spV (bnds splits) (splits.length + 1)) f t (spV (bnds splits) (splits.length + 1)).length = ptV (bnds splits) f t ((bnds splits).length - 1) := (by rw [hsl, rpt_eq hg (by omega) _ (Nat.le_refl _), hb1])
      rw [hr98] at F94 ⊢
      clear hr98
      refine V.region ?_
      refine V.run T_ok 4 rfl ?_
      refine V.splitF (j := 3) (t := 139) rfl rfl (by (rw [hrf.1]; simp)) ?_
      refine V.run T_ok 5 rfl ?_
      refine V.splitF (j := 8) (t := 144) rfl rfl (by (rw [hrf.2]; simp)) ?_
      refine V.run T_ok 6 rfl ?_
      refine V.nil ?_
      refine V.tN ?_
      refine V.condN rfl (by (simp)) ?_
      refine V.skip ?_
      refine V.tN ?_
      refine V.seq ?_
      refine V.seq ?_
      refine V.region ?_
      refine V.run T_ok 1 rfl ?_
      refine V.nil ?_
      refine V.tN ?_
      refine V.block ?_
      refine V.loopM (fun m e v100 => Fr [] w v100 ∧ w95.heap.size ≤ v100.heap.size ∧ Sl V.Cod.str v100 D_splits a_splits c_splits splits ∧ Cells v100 k1 [.string f, .string t] 24 ∧ Dir v100 k15 (fun j => w9.heap.size ≤ j ∧ j < w18.heap.size) (bnds splits) ∧ RDir v100 k21 (fun j => w18.heap.size ≤ j ∧ j < w24.heap.size) (spV (bnds splits) (splits.length + 1)) ∧ Cells v100 k21 [.slice a27 (spV (bnds splits) (splits.length + 1)).length c28] 38 ∧ Sl (V.Cod.pair V.Cod.str V.Cod.str) v100 (fun j => w18.heap.size ≤ j ∧ j < w24.heap.size) a27 c28 (spV (bnds splits) (splits.length + 1)) ∧ V.Row (V.Cod.pair (V.Cod.int .i64) (V.Cod.pair V.Cod.str V.Cod.str)) 48 v100 V.None' w83.heap.size w89.heap.size a86 c87 (ptV (bnds splits) f t ((bnds splits).length - 1)) ∧ V.Row (V.Cod.pair (V.Cod.int .i64) (V.Cod.pair V.Cod.str V.Cod.str)) 49 v100 V.None' w89.heap.size w95.heap.size a92 c93 (ptV (bnds splits) f t ((bnds splits).length - 1)) ∧ ∃ (i : Nat) , m = (ptV (bnds splits) f t ((bnds splits).length - 1)).length - i ∧ i ≤ (ptV (bnds splits) f t ((bnds splits).length - 1)).length ∧ e 21 = .slice a86 (ptV (bnds splits) f t ((bnds splits).length - 1)).length c87 ∧ e 22 = .slice a92 (ptV (bnds splits) f t ((bnds splits).length - 1)).length c93 ∧ e 23 = .int .i64 (i : Int)) ?_ ?_
      ·
        exact ⟨_, HG, (by omega), F_splits, Fk2, F17, F23, F29, F30, F88, F94, (0), rfl, (by omega), rfl, rfl, rfl⟩
      clear HG F_splits Fk2 F17 F23 F29 F30 F88 F94
      rintro _ e v100 ⟨HG, z101, F_splits, Fk2, F17, F23, F29, F30, F88, F94, i, rfl, hi2, he1_21, he1_22, he1_23⟩
      refine V.knownC (t := 21) he1_21 ?_
      refine V.knownC (t := 22) he1_22 ?_
      refine V.knownC (t := 23) he1_23 ?_
      refine V.seq ?_
      refine V.seq ?_
      refine V.region ?_
      refine V.run T_ok 4 rfl ?_
      refine V.nil ?_
      refine V.tN ?_
      refine V.condT rfl (fun h25 => ?_) (fun h25 => ?_)
      ·
        try simp only [decide_eq_true_eq, decide_eq_false_iff_not, Bool.or_eq_true, Bool.and_eq_true, Bool.or_eq_false_iff, Bool.and_eq_false_iff, Bool.not_eq_true', Bool.not_eq_false', Int.not_lt, Int.not_le, Decidable.not_not, V.u8eq, V.S_inj, V.S_lit, V.S_lit2, V.bl] at h25
        try simp only [V.mk0, V.mk1, V.mk2, V.mk3] at h25
        refine V.skip ?_
        refine V.tN ?_
        refine V.seq ?_
        refine V.block ?_
        refine V.seq ?_
        refine V.drawQ mixed (by kernel_rfl) ?_
        refine V.qrun T_ok 2 rfl ?_
        refine V.qelem T_ok F88.sl rfl rfl sz48 rfl rfl rfl rfl (by first | omega | (simp only [List.length_take, List.length_drop, List.length_append, List.length_cons, List.length_nil, List.length_replicate, List.length_set, V.length_data, V.S_size]; omega)) (by first | omega | (simp only [List.length_take, List.length_drop, List.length_append, List.length_cons, List.length_nil, List.length_replicate, List.length_set, V.length_data, V.S_size]; omega)) ?_
        rintro b102 o103 cs104 hx105 hb106 hR109 hA107
        obtain ⟨x108, hx108⟩ : ∃ z', (ptV (bnds splits) f t ((bnds splits).length - 1))[((i : Int)).toNat] = z' := ⟨_, rfl⟩
        rw [hx108] at hR109
        obtain ⟨_, _, rfl, rfl, ⟨_, _, rfl, rfl, rfl⟩⟩ := hR109
        try simp only [Int.toNat_natCast] at hx108 hx105
        refine V.qrun T_ok 1 rfl ?_
        refine V.qloadA T_ok (o0 := o103) (off := 0) hA107 rfl rfl rfl rfl rfl ?_
        refine V.qrun T_ok 2 rfl ?_
        refine V.qelem T_ok F94.sl rfl rfl sz49 rfl rfl rfl rfl (by first | omega | (simp only [List.length_take, List.length_drop, List.length_append, List.length_cons, List.length_nil, List.length_replicate, List.length_set, V.length_data, V.S_size]; omega)) (by first | omega | (simp only [List.length_take, List.length_drop, List.length_append, List.length_cons, List.length_nil, List.length_replicate, List.length_set, V.length_data, V.S_size]; omega)) ?_
        rintro b110 o111 cs112 hx113 hb114 hR117 hA115
        obtain ⟨x116, hx116⟩ : ∃ z', (ptV (bnds splits) f t ((bnds splits).length - 1))[((i : Int)).toNat] = z' := ⟨_, rfl⟩
        rw [hx116] at hR117
        obtain ⟨_, _, rfl, rfl, ⟨_, _, rfl, rfl, rfl⟩⟩ := hR117
        try simp only [Int.toNat_natCast] at hx116 hx113
        obtain rfl : x108 = x116 := hx108.symm.trans hx116
        refine V.qrun T_ok 1 rfl ?_
        refine V.qloadA T_ok (o0 := o111) (off := 0) hA115 rfl rfl rfl rfl rfl ?_
        refine V.qrun T_ok 2 rfl ?_
        refine V.qsplitF (j := 11) (t := 168) rfl rfl (by (simp)) ?_
        refine V.qrun T_ok 2 rfl ?_
        refine V.qyes rfl rfl rfl ?_
        refine V.qelem T_ok F88.sl rfl rfl sz48 rfl rfl rfl rfl (by first | omega | (simp only [List.length_take, List.length_drop, List.length_append, List.length_cons, List.length_nil, List.length_replicate, List.length_set, V.length_data, V.S_size]; omega)) (by first | omega | (simp only [List.length_take, List.length_drop, List.length_append, List.length_cons, List.length_nil, List.length_replicate, List.length_set, V.length_data, V.S_size]; omega)) ?_
        rintro b118 o119 cs120 hx121 hb122 hR125 hA123
        obtain ⟨x124, hx124⟩ : ∃ z', (ptV (bnds splits) f t ((bnds splits).length - 1))[((i : Int)).toNat] = z' := ⟨_, rfl⟩
        rw [hx124] at hR125
        obtain ⟨_, _, rfl, rfl, ⟨_, _, rfl, rfl, rfl⟩⟩ := hR125
        try simp only [Int.toNat_natCast] at hx124 hx121
        obtain rfl : x108 = x124 := hx108.symm.trans hx124
        refine V.qrun T_ok 1 rfl ?_
        refine V.qyes rfl rfl rfl ?_
        refine V.qloadA T_ok (o0 := o119) (off := 1) hA123 rfl rfl rfl rfl rfl ?_
        refine V.qrun T_ok 2 rfl ?_
        refine V.qyes rfl rfl rfl ?_
        refine V.qelem T_ok F94.sl rfl rfl sz49 rfl rfl rfl rfl (by first | omega | (simp only [List.length_take, List.length_drop, List.length_append, List.length_cons, List.length_nil, List.length_replicate, List.length_set, V.length_data, V.S_size]; omega)) (by first | omega | (simp only [List.length_take, List.length_drop, List.length_append, List.length_cons, List.length_nil, List.length_replicate, List.length_set, V.length_data, V.S_size]; omega)) ?_
        rintro b126 o127 cs128 hx129 hb130 hR133 hA131
        obtain ⟨x132, hx132⟩ : ∃ z', (ptV (bnds splits) f t ((bnds splits).length - 1))[((i : Int)).toNat] = z' := ⟨_, rfl⟩
        rw [hx132] at hR133
        obtain ⟨_, _, rfl, rfl, ⟨_, _, rfl, rfl, rfl⟩⟩ := hR133
        try simp only [Int.toNat_natCast] at hx132 hx129
        obtain rfl : x108 = x132 := hx108.symm.trans hx132
        refine V.qrun T_ok 1 rfl ?_
        refine V.qyes rfl rfl rfl ?_
        refine V.qloadA T_ok (o0 := o127) (off := 1) hA131 rfl rfl rfl rfl rfl ?_
        refine V.qyes rfl rfl rfl ?_
        refine V.qstep rfl rfl (fun _ _ => V.neA_run rfl rfl rfl eqG24 (eqS24 _)) ?_
        refine V.qrun T_ok 1 rfl ?_
        refine V.qnil ?_
        rintro w134 G135
        have z136 := V.Fr.size G135
        try replace F_splits := F_splits.gr G135
        try replace Fk2 := Fk2.gr G135
        try replace F17 := F17.gr G135
        try replace F23 := F23.gr G135
        try replace F29 := F29.gr G135
        try replace F30 := F30.gr G135
        try replace F88 := F88.gr G135
        try replace F94 := F94.gr G135
        replace HG := HG.grow G135
        clear G135
        refine V.tN ?_
        refine V.condN rfl (by (simp)) ?_
        refine V.skip ?_
        refine V.bN ?_
        refine V.tN ?_
        refine V.region ?_
        refine V.run T_ok 1 rfl ?_
        refine V.addN rfl rfl rfl rfl rfl (by first | omega | (simp only [List.length_take, List.length_drop, List.length_append, List.length_cons, List.length_nil, List.length_replicate, List.length_set, V.length_data, V.S_size]; omega)) (by first | omega | (simp only [List.length_take, List.length_drop, List.length_append, List.length_cons, List.length_nil, List.length_replicate, List.length_set, V.length_data, V.S_size]; omega)) ?_
        refine V.run T_ok 1 rfl ?_
        refine V.nil ?_
        refine V.tN ?_
        exact ⟨_, (by omega), HG, (by omega), F_splits, Fk2, F17, F23, F29, F30, F88, F94, (i + 1), rfl, (by omega), rfl, rfl, rfl⟩
      ·
        try simp only [decide_eq_true_eq, decide_eq_false_iff_not, Bool.or_eq_true, Bool.and_eq_true, Bool.or_eq_false_iff, Bool.and_eq_false_iff, Bool.not_eq_true', Bool.not_eq_false', Int.not_lt, Int.not_le, Decidable.not_not, V.u8eq, V.S_inj, V.S_lit, V.S_lit2, V.bl] at h25
        try simp only [V.mk0, V.mk1, V.mk2, V.mk3] at h25
        refine V.exit ?_
        refine V.tX ?_
        refine V.tX ?_
        refine V.bE ?_
        refine V.tN ?_
        refine V.seq ?_
        refine V.region ?_
        refine V.call (alive_spec) rfl rfl rfl ?_
        rintro _ w137 ⟨rfl, G138⟩
        have z139 := V.Fr.size G138
        try replace F_splits := F_splits.gr G138
        try replace Fk2 := Fk2.gr G138
        try replace F17 := F17.gr G138
        try replace F23 := F23.gr G138
        try replace F29 := F29.gr G138
        try replace F30 := F30.gr G138
        try replace F88 := F88.gr G138
        try replace F94 := F94.gr G138
        replace HG := HG.grow G138
        clear G138
        refine V.run T_ok 1 rfl ?_
        refine V.nil ?_
        refine V.tN ?_
        refine V.ret ?_
        refine V.done rfl ?_
        exact ⟨(by first | rfl | simp only [List.length_set]), HG⟩

theorem directoryTells_walk {w : World}  {D_splits : Nat → Prop} {c_splits : Nat} {a_splits : Option Addr} {splits : List ByteArray} (F_splits : Sl V.Cod.str w D_splits a_splits c_splits splits) (hD_splits : ∀ k, D_splits k → k < w.heap.size) {key : ByteArray} {f : ByteArray} {t : ByteArray} (hs : ∀ s ∈ splits, s.size ≤ 9223372036854775807) (hk : key.size ≤ 9223372036854775807) (hf : f.size ≤ 9223372036854775807) (ht : t.size ≤ 9223372036854775807) :
    Meets Try.prog 3 [.slice a_splits splits.length c_splits, .string key, .agg #[.string f, .string t]] w fun r w' => r = .bool true ∧ Gr w w' := by
  cases hok : okB splits with
  | true => exact directoryTells_ok F_splits hD_splits hok hs hk hf ht
  | false => exact directoryTells_no F_splits hD_splits hok hs hk hf ht

end Go.Proofs.Ytbfaobkahgadaaa
