/- Proved here: walks: what functions of this seat's program return and what they leave of memory, each as a contract. Conditions: stated at each theorem. -/
import Derived.Test.YtomacafijmngnaaMl6
namespace Go.Proofs.Ytomacafijmngnaa
set_option linter.unusedVariables false
set_option linter.unusedSimpArgs false
open Go
open V (Bytes Meets Env Sl Own Gr Fr Cells S)

theorem comm_app : ∀ (a b : List UInt8), comm a (a ++ b) = a.length
  | [], _ => by unfold comm; simp
  | x :: xs, b => by simp [comm, comm_app xs b]
theorem take_app (a b : List UInt8) {n : Nat} (h : a.length ≤ n) : ((a ++ b).take n).take a.length = a := by
  rw [List.take_take, Nat.min_eq_left h]; exact List.take_left' rfl
theorem xor1 (x : UInt8) : ¬ (x ^^^ 1) = x := by
  intro h
  have := congrArg (fun y => y ^^^ x) h
  simp only [UInt8.xor_self] at this
  rw [UInt8.xor_comm x 1, UInt8.xor_assoc, UInt8.xor_self] at this
  revert this; decide
/-- what a crash leaves of a file whose beginning is safe -/
theorem left_shape {s m c e : List UInt8} {keep : Int} {torn : Bool} {f : List UInt8} (hf : dLeft ⟨s, c, s ++ m, e⟩ keep torn = f) :
    s.length ≤ f.length ∧ f.length ≤ (s ++ m).length ∧ f.take s.length = s ∧
    (¬ (torn = true ∧ s.length < f.length) → f.take f.length = (s ++ m).take f.length) ∧
    (torn = true → s.length < f.length → f.take (f.length - 1) = (s ++ m).take (f.length - 1) ∧ ¬ f[f.length - 1]? = (s ++ m)[f.length - 1]?) := by
  unfold dLeft at hf
  simp only [comm_app, List.length_append] at hf
  split at hf
  · subst hf; simp
  · split at hf
    · have hm : m = [] := List.eq_nil_of_length_eq_zero (by omega)
      subst hm; subst hf; simp
    · split at hf
      · rename_i h1 h2 h3
        generalize hN : s.length + min keep.toNat (s.length + m.length - s.length) = N at hf
        have hl : ((s ++ m).take N).length = N := by simp only [List.length_take, List.length_append]; omega
        have hfl : f.length = N := by rw [← hf, List.length_set, hl]
        have hN1 : N - 1 < (s ++ m).length := by simp only [List.length_append]; omega
        refine ⟨by omega, by simp only [List.length_append]; omega, ?_, fun h => absurd ⟨h3.1, by omega⟩ h, fun _ _ => ⟨?_, ?_⟩⟩
        · rw [← hf, List.take_set_of_le (by omega)]; exact take_app s m (by omega)
        · rw [hfl, ← hf, List.take_set_of_le (Nat.le_refl _), List.take_take, Nat.min_eq_left (by omega)]
        · rw [hfl, ← hf, List.getElem?_set_self (by omega), List.getElem?_eq_getElem hN1, List.getD_eq_getElem?_getD, List.getElem?_take_of_lt (by omega), List.getElem?_eq_getElem hN1]
          intro h; exact xor1 _ (Option.some.inj h)
      · rename_i h1 h2 h3
        generalize hN : s.length + min keep.toNat (s.length + m.length - s.length) = N at hf
        have hl : ((s ++ m).take N).length = N := by simp only [List.length_take, List.length_append]; omega
        have hfl : f.length = N := by rw [← hf, hl]
        refine ⟨by omega, by simp only [List.length_append]; omega, ?_, fun _ => by rw [hfl, ← hf, List.take_take, Nat.min_self], fun ht hlt => absurd ⟨ht, by omega⟩ h3⟩
        rw [← hf]; exact take_app s m (by omega)

set_option maxHeartbeats 4000000 in
set_option maxRecDepth 10000 in
theorem diskSafe_walk {w : World}  {D_safe : Nat → Prop} {c_safe : Nat} {a_safe : Option Addr} {safe : List UInt8} (F_safe : Sl V.Cod.byte w D_safe a_safe c_safe safe) {D_l : Nat → Prop} {c_l : Nat} {a_l : Option Addr} {l : List (List UInt8)} (F_l : Sl V.Cod.byte.sl w D_l a_l c_l l) (hD_l : ∀ k, D_l k → k < w.heap.size) {D_a : Nat → Prop} {c_a : Nat} {a_a : Option Addr} {ab : List UInt8} {kd n : Int} {torn cell : Bool} (FB : Bytes w D_a a_a c_a ab) (hD_a : ∀ k, D_a k → k < w.heap.size)  :
    Meets Try.prog 3 [.slice a_safe safe.length c_safe, .slice a_l l.length c_l, .agg #[.int .i64 kd, .int .i64 n, .slice a_a ab.length c_a, .bool torn, .bool cell]] w fun r w' => r = .bool true ∧ Gr w w' := by
  replace F_safe := F_safe.flb
  have HG := V.Fr.refl [] w
  refine V.enter (n := 184) Try.func3 rfl rfl (by decide) rfl ?_
  refine V.seq ?_
  refine V.region ?_
  refine V.box rfl rfl rfl rfl ?_
  rintro k1 w3 s5 s6 G4 Fk2
  have z7 := V.Fr.size G4
  try replace F_safe := F_safe.gr G4
  try replace F_l := F_l.gr G4
  try replace FB := FB.gr G4
  replace HG := HG.grow G4
  clear G4
  try simp only [V.cellsL, V.spliceL] at Fk2
  refine V.run T_ok 1 rfl ?_
  refine V.nil ?_
  refine V.tN ?_
  refine V.seq ?_
  refine V.seq ?_
  refine V.region ?_
  refine V.run T_ok 4 rfl ?_
  refine V.split (j := 3) (t := 18) rfl rfl (fun g1_3 => ?_) (fun g1_3 => ?_)
  ·
    try simp only [decide_eq_true_eq, decide_eq_false_iff_not, Bool.or_eq_true, Bool.and_eq_true, Bool.or_eq_false_iff, Bool.and_eq_false_iff, Bool.not_eq_true', Bool.not_eq_false', Int.not_lt, Int.not_le, Decidable.not_not, V.u8eq, V.S_inj, V.S_lit, V.S_lit2] at g1_3
    refine V.run T_ok 5 rfl ?_
    refine V.nil ?_
    refine V.tN ?_
    refine V.condY rfl rfl ?_
    refine V.seq ?_
    refine V.region ?_
    refine V.call (alive_spec) rfl rfl rfl ?_
    rintro _ w8 ⟨rfl, G9⟩
    have z10 := V.Fr.size G9
    try replace F_safe := F_safe.gr G9
    try replace F_l := F_l.gr G9
    try replace FB := FB.gr G9
    try replace Fk2 := Fk2.gr G9
    replace HG := HG.grow G9
    clear G9
    refine V.run T_ok 1 rfl ?_
    refine V.nil ?_
    refine V.tN ?_
    refine V.ret ?_
    refine V.tR ?_
    refine V.done rfl ?_
    exact ⟨(by first | rfl | simp only [List.length_set]), HG⟩
  ·
    try simp only [decide_eq_true_eq, decide_eq_false_iff_not, Bool.or_eq_true, Bool.and_eq_true, Bool.or_eq_false_iff, Bool.and_eq_false_iff, Bool.not_eq_true', Bool.not_eq_false', Int.not_lt, Int.not_le, Decidable.not_not, V.u8eq, V.S_inj, V.S_lit, V.S_lit2] at g1_3
    refine V.run T_ok 1 rfl ?_
    refine V.yes rfl rfl rfl ?_
    refine V.loadO T_ok Fk2 rfl rfl rfl rfl rfl ?_
    refine V.run T_ok 3 rfl ?_
    refine V.nil ?_
    refine V.tN ?_
    refine V.condT rfl (fun h1 => ?_) (fun h1 => ?_)
    ·
      try simp only [decide_eq_true_eq, decide_eq_false_iff_not, Bool.or_eq_true, Bool.and_eq_true, Bool.or_eq_false_iff, Bool.and_eq_false_iff, Bool.not_eq_true', Bool.not_eq_false', Int.not_lt, Int.not_le, Decidable.not_not, V.u8eq, V.S_inj, V.S_lit, V.S_lit2] at h1
      refine V.seq ?_
      refine V.region ?_
      refine V.call (alive_spec) rfl rfl rfl ?_
      rintro _ w11 ⟨rfl, G12⟩
      have z13 := V.Fr.size G12
      try replace F_safe := F_safe.gr G12
      try replace F_l := F_l.gr G12
      try replace FB := FB.gr G12
      try replace Fk2 := Fk2.gr G12
      replace HG := HG.grow G12
      clear G12
      refine V.run T_ok 1 rfl ?_
      refine V.nil ?_
      refine V.tN ?_
      refine V.ret ?_
      refine V.tR ?_
      refine V.done rfl ?_
      exact ⟨(by first | rfl | simp only [List.length_set]), HG⟩
    ·
      try simp only [decide_eq_true_eq, decide_eq_false_iff_not, Bool.or_eq_true, Bool.and_eq_true, Bool.or_eq_false_iff, Bool.and_eq_false_iff, Bool.not_eq_true', Bool.not_eq_false', Int.not_lt, Int.not_le, Decidable.not_not, V.u8eq, V.S_inj, V.S_lit, V.S_lit2] at h1
      refine V.skip ?_
      refine V.tN ?_
      refine V.seq ?_
      refine V.region ?_
      refine V.call (dnew_spec) rfl rfl rfl ?_
      rintro _ w17 ⟨k14, rfl, F15, ⟨h16l, h16u⟩, G18⟩
      have z19 := V.Fr.size G18
      try replace F_safe := F_safe.gr G18
      try replace F_l := F_l.gr G18
      try replace FB := FB.gr G18
      try replace Fk2 := Fk2.gr G18
      replace HG := HG.grow G18
      clear G18
      refine V.run T_ok 1 rfl ?_
      refine V.nil ?_
      refine V.tN ?_
      refine V.seq ?_
      refine V.region ?_
      refine V.run T_ok 2 rfl ?_
      have F20 := Dsk.nil (D := (fun j => w17.heap.size ≤ j)) F15 (by first | (intro h; exact h rfl) | (intro h; omega)) (by intro j hj; first | omega | exact ⟨by omega, by omega⟩)
      clear F15
      refine V.call (dappend_spec F20 F_safe (by first | omega | (simp only [List.length_take, List.length_drop, List.length_append, List.length_cons, List.length_nil, List.length_replicate, List.length_set, V.length_data, V.S_size]; omega))) rfl rfl rfl ?_
      rintro _ w22 ⟨rfl, F21, G23⟩
      have z24 := V.Fr.size G23
      first | replace F_safe := F_safe.mv1 G23 (by first | exact (fun h => by have := h.1; have := h.2; omega) | exact (fun h => by omega) | exact (fun h => by have := h.1.1; have := h.1.2; omega) | exact (fun h => h.2 rfl) | exact (fun h => hnk h.1) | first | omega | exact fun h => h | exact ⟨by omega, fun h => h⟩ | (intro h; first | (have := hD_l _ h; omega)) | (refine ⟨by omega, ?_⟩; intro h; first | (have := hD_l _ h; omega))) | clear F_safe | skip
      first | replace F_l := F_l.mv1 G23 (by first | exact (fun h => by have := hD_l _ h; omega) | omega) | clear F_l | skip
      first | replace FB := FB.mv1 G23 (by first | exact (fun h => by have := hD_a _ h; omega) | omega) | clear FB | skip
      first | replace Fk2 := Fk2.mv1 G23 (by omega) | clear Fk2 | skip
      first | replace F20 := F20.mv1 G23 (by first | exact ⟨by omega, by assumption⟩ | exact ⟨by omega, fun h => absurd h.1 (by assumption)⟩ | exact ⟨by omega, fun h => absurd h.1.1 (by assumption)⟩ | exact ⟨by omega, fun h => by first | (have h2 := h.1; have h3 := h.2; omega) | (have h2 := h; dsimp only at h2; omega)⟩ | first | omega | exact fun h => h | exact ⟨by omega, fun h => h⟩ | (intro h; first | (have := hD_l _ h; omega)) | (refine ⟨by omega, ?_⟩; intro h; first | (have := hD_l _ h; omega))) | clear F20 | skip
      replace HG := HG.new1 G23 (by first | (refine Or.inr ?_; omega) | (refine Or.inl ?_; simp; done))
      clear G23
      refine V.nil ?_
      refine V.tN ?_
      refine V.seq ?_
      refine V.region ?_
      refine V.run T_ok 2 rfl ?_
      refine V.call (dset_spec F21 F_safe (by first | omega | (simp only [List.length_take, List.length_drop, List.length_append, List.length_cons, List.length_nil, List.length_replicate, List.length_set, V.length_data, V.S_size]; omega))) rfl rfl rfl ?_
      rintro _ w26 ⟨rfl, F25, G27⟩
      have z28 := V.Fr.size G27
      first | replace F_safe := F_safe.mv1 G27 (by first | exact (fun h => by have := h.1; have := h.2; omega) | exact (fun h => by omega) | exact (fun h => by have := h.1.1; have := h.1.2; omega) | exact (fun h => h.2 rfl) | exact (fun h => hnk h.1) | first | omega | exact fun h => h | exact ⟨by omega, fun h => h⟩ | (intro h; first | (have := hD_l _ h; omega)) | (refine ⟨by omega, ?_⟩; intro h; first | (have := hD_l _ h; omega))) | clear F_safe | skip
      first | replace F_l := F_l.mv1 G27 (by first | exact (fun h => by have := hD_l _ h; omega) | omega) | clear F_l | skip
      first | replace FB := FB.mv1 G27 (by first | exact (fun h => by have := hD_a _ h; omega) | omega) | clear FB | skip
      first | replace Fk2 := Fk2.mv1 G27 (by omega) | clear Fk2 | skip
      first | replace F21 := F21.mv1 G27 (by first | exact ⟨by omega, by assumption⟩ | exact ⟨by omega, fun h => absurd h.1 (by assumption)⟩ | exact ⟨by omega, fun h => absurd h.1.1 (by assumption)⟩ | exact ⟨by omega, fun h => by first | (have h2 := h.1; have h3 := h.2; omega) | (have h2 := h; dsimp only at h2; omega)⟩ | first | omega | exact fun h => h | exact ⟨by omega, fun h => h⟩ | (intro h; first | (have := hD_l _ h; omega)) | (refine ⟨by omega, ?_⟩; intro h; first | (have := hD_l _ h; omega))) | clear F21 | skip
      replace HG := HG.new1 G27 (by first | (refine Or.inr ?_; omega) | (refine Or.inl ?_; simp; done))
      clear G27
      refine V.nil ?_
      refine V.tN ?_
      refine V.seq ?_
      refine V.seq ?_
      refine V.region ?_
      refine V.run T_ok 1 rfl ?_
      have hd29 : dSet (dAppend (⟨[], [], [], []⟩ : DiskV) safe) safe = (⟨[], [], safe, safe⟩ : DiskV) := by rw [dAppend_ok (by simp; omega), dSet_ok (by omega)]; rfl
      rw [hd29] at F25
      clear hd29
      refine V.call (dsync_spec F25) rfl rfl rfl ?_
      rintro _ w31 ⟨rfl, F30, G32⟩
      have z33 := V.Fr.size G32
      first | replace F_safe := F_safe.mv1 G32 (by first | exact (fun h => by have := h.1; have := h.2; omega) | exact (fun h => by omega) | exact (fun h => by have := h.1.1; have := h.1.2; omega) | exact (fun h => h.2 rfl) | exact (fun h => hnk h.1) | first | omega | exact fun h => h | exact ⟨by omega, fun h => h⟩ | (intro h; first | (have := hD_l _ h; omega)) | (refine ⟨by omega, ?_⟩; intro h; first | (have := hD_l _ h; omega))) | clear F_safe | skip
      first | replace F_l := F_l.mv1 G32 (by first | exact (fun h => by have := hD_l _ h; omega) | omega) | clear F_l | skip
      first | replace FB := FB.mv1 G32 (by first | exact (fun h => by have := hD_a _ h; omega) | omega) | clear FB | skip
      first | replace Fk2 := Fk2.mv1 G32 (by omega) | clear Fk2 | skip
      first | replace F25 := F25.mv1 G32 (by first | exact ⟨by omega, by assumption⟩ | exact ⟨by omega, fun h => absurd h.1 (by assumption)⟩ | exact ⟨by omega, fun h => absurd h.1.1 (by assumption)⟩ | exact ⟨by omega, fun h => by first | (have h2 := h.1; have h3 := h.2; omega) | (have h2 := h; dsimp only at h2; omega)⟩ | first | omega | exact fun h => h | exact ⟨by omega, fun h => h⟩ | (intro h; first | (have := hD_l _ h; omega)) | (refine ⟨by omega, ?_⟩; intro h; first | (have := hD_l _ h; omega))) | clear F25 | skip
      replace HG := HG.new1 G32 (by first | (refine Or.inr ?_; omega) | (refine Or.inl ?_; simp; done))
      clear G32
      refine V.run T_ok 3 rfl ?_
      refine V.yes rfl rfl rfl ?_
      have hd34 : dSync (⟨[], [], safe, safe⟩ : DiskV) = (⟨safe, safe, safe, safe⟩ : DiskV) := rfl
      rw [hd34] at F30
      clear hd34
      refine V.call (ddirty_spec F30) rfl rfl rfl ?_
      rintro _ w35 ⟨rfl, G36⟩
      have z37 := V.Fr.size G36
      try replace F_safe := F_safe.gr G36
      try replace F_l := F_l.gr G36
      try replace FB := FB.gr G36
      try replace Fk2 := Fk2.gr G36
      try replace F30 := F30.gr G36
      replace HG := HG.grow G36
      clear G36
      refine V.run T_ok 1 rfl ?_
      refine V.nil ?_
      refine V.tN ?_
      refine V.condN rfl (by (simp [dDirty])) ?_
      refine V.skip ?_
      refine V.tN ?_
      refine V.seq ?_
      refine V.region ?_
      refine V.run T_ok 1 rfl ?_
      refine V.toStr F_safe Try.underlying22 Try.underlying5 Try.underlying9 rfl rfl rfl rfl ?_
      refine V.run T_ok 1 rfl ?_
      refine V.nil ?_
      refine V.tN ?_
      refine V.seq ?_
      refine V.seq ?_
      refine V.region ?_
      refine V.run T_ok 1 rfl ?_
      refine V.nil ?_
      refine V.tN ?_
      refine V.block ?_
      refine V.loopM (fun m e v40 => Fr [] w v40 ∧ w35.heap.size ≤ v40.heap.size ∧ Sl V.Cod.byte v40 (fun k => D_safe k ∧ k < w.heap.size) a_safe c_safe safe ∧ Sl V.Cod.byte.sl v40 D_l a_l c_l l ∧ Sl V.Cod.byte v40 D_a a_a c_a ab ∧ Cells v40 k1 [.int .i64 kd, .int .i64 n, .slice a_a ab.length c_a, .bool torn, .bool cell] 25 ∧ ∃ (more : List UInt8) (i : Nat) , m = l.length - i ∧ more.length ≤ 200 * i ∧ i ≤ l.length ∧ i ≤ 60 ∧ Dsk v40 k14 (fun j => w17.heap.size ≤ j) ((⟨safe, safe, safe ++ more, safe⟩ : DiskV)) ∧ e 0 = .slice a_safe safe.length c_safe ∧ e 1 = .slice a_l l.length c_l ∧ e 5 = .pointer (some ⟨k1, 0, none⟩) ∧ e 7 = .pointer (some ⟨k14, 0, none⟩) ∧ e 8 = .string (V.S (safe ++ more)) ∧ e 9 = .int .i64 (i : Int)) ?_ ?_
      ·
        have hd41 : (⟨safe, safe, safe, safe⟩ : DiskV) = (⟨safe, safe, safe ++ [], safe⟩ : DiskV) := by rw [List.append_nil]
        rw [hd41] at F30
        clear hd41
        
        exact ⟨_, HG, (by omega), F_safe, F_l, FB, Fk2, ([]), (0), rfl, (by simp), (by omega), (by omega), (by first | exact F30 | exact F30.mono (fun _ h => h.1) (by intro h; omega)), rfl, rfl, rfl, rfl, (congrArg (fun x => Value.string (V.S x)) (List.append_nil safe).symm), rfl⟩
      try clear F30
      clear HG F_safe F_l FB Fk2
      rintro _ e v40 ⟨HG, z42, F_safe, F_l, FB, Fk2, more, i, rfl, hml, hil, hi60, F38, he0_0, he0_1, he0_5, he0_7, he0_8, he0_9⟩
      refine V.knownC (t := 0) he0_0 ?_
      refine V.knownC (t := 1) he0_1 ?_
      refine V.knownC (t := 5) he0_5 ?_
      refine V.knownC (t := 7) he0_7 ?_
      refine V.knownC (t := 8) he0_8 ?_
      refine V.knownC (t := 9) he0_9 ?_
      refine V.seq ?_
      refine V.seq ?_
      refine V.region ?_
      refine V.run T_ok 5 rfl ?_
      refine V.andG T_ok 2 4 45 rfl rfl rfl rfl rfl rfl rfl rfl ?_
      refine V.nil ?_
      refine V.tN ?_
      refine V.condT rfl (fun h10 => ?_) (fun h10 => ?_)
      ·
        try simp only [decide_eq_true_eq, decide_eq_false_iff_not, Bool.or_eq_true, Bool.and_eq_true, Bool.or_eq_false_iff, Bool.and_eq_false_iff, Bool.not_eq_true', Bool.not_eq_false', Int.not_lt, Int.not_le, Decidable.not_not, V.u8eq, V.S_inj, V.S_lit, V.S_lit2] at h10
        refine V.skip ?_
        refine V.tN ?_
        refine V.seq ?_
        refine V.block ?_
        refine V.seq ?_
        refine V.region ?_
        refine V.run T_ok 2 rfl ?_
        refine V.elem T_ok F_l rfl rfl sz22 rfl rfl rfl rfl (by first | omega | (simp only [List.length_take, List.length_drop, List.length_append, List.length_cons, List.length_nil, List.length_replicate, List.length_set, V.length_data, V.S_size]; omega)) (by first | omega | (simp only [List.length_take, List.length_drop, List.length_append, List.length_cons, List.length_nil, List.length_replicate, List.length_set, V.length_data, V.S_size]; omega)) ?_
        rintro b43 o44 cs45 hx46 hb47 hR53 hA48
        obtain ⟨x49, hx49⟩ : ∃ z', l[((i : Int)).toNat] = z' := ⟨_, rfl⟩
        rw [hx49] at hR53
        obtain ⟨a50, c51, rfl, F52⟩ := hR53
        try simp only [Int.toNat_natCast] at hx49 hx46
        refine V.loadA T_ok (o0 := o44) (off := 0) hA48 rfl rfl rfl rfl rfl ?_
        refine V.run T_ok 2 rfl ?_
        refine V.nil ?_
        refine V.tN ?_
        refine V.condT rfl (fun h12 => ?_) (fun h12 => ?_)
        ·
          try simp only [decide_eq_true_eq, decide_eq_false_iff_not, Bool.or_eq_true, Bool.and_eq_true, Bool.or_eq_false_iff, Bool.and_eq_false_iff, Bool.not_eq_true', Bool.not_eq_false', Int.not_lt, Int.not_le, Decidable.not_not, V.u8eq, V.S_inj, V.S_lit, V.S_lit2] at h12
          refine V.seq ?_
          refine V.region ?_
          refine V.run T_ok 3 rfl ?_
          refine V.elem T_ok F_l rfl rfl sz22 rfl rfl rfl rfl (by first | omega | (simp only [List.length_take, List.length_drop, List.length_append, List.length_cons, List.length_nil, List.length_replicate, List.length_set, V.length_data, V.S_size]; omega)) (by first | omega | (simp only [List.length_take, List.length_drop, List.length_append, List.length_cons, List.length_nil, List.length_replicate, List.length_set, V.length_data, V.S_size]; omega)) ?_
          rintro b54 o55 cs56 hx57 hb58 hR64 hA59
          obtain ⟨x60, hx60⟩ : ∃ z', l[((i : Int)).toNat] = z' := ⟨_, rfl⟩
          rw [hx60] at hR64
          obtain ⟨a61, c62, rfl, F63⟩ := hR64
          try simp only [Int.toNat_natCast] at hx60 hx57
          obtain rfl : x49 = x60 := hx49.symm.trans hx60
          refine V.loadA T_ok (o0 := o55) (off := 0) hA59 rfl rfl rfl rfl rfl ?_
          refine V.call (dappend_spec F38 F63 (by first | omega | (simp only [List.length_take, List.length_drop, List.length_append, List.length_cons, List.length_nil, List.length_replicate, List.length_set, V.length_data, V.S_size]; omega))) rfl rfl rfl ?_
          rintro _ w66 ⟨rfl, F65, G67⟩
          have z68 := V.Fr.size G67
          first | replace F_safe := F_safe.mv1 G67 (by first | exact (fun h => by have := h.1; have := h.2; omega) | exact (fun h => by omega) | exact (fun h => by have := h.1.1; have := h.1.2; omega) | exact (fun h => h.2 rfl) | exact (fun h => hnk h.1) | first | omega | exact fun h => h | exact ⟨by omega, fun h => h⟩ | (intro h; first | (have := hD_l _ h; omega)) | (refine ⟨by omega, ?_⟩; intro h; first | (have := hD_l _ h; omega))) | clear F_safe | skip
          first | replace F_l := F_l.mv1 G67 (by first | exact (fun h => by have := hD_l _ h; omega) | omega) | clear F_l | skip
          first | replace FB := FB.mv1 G67 (by first | exact (fun h => by have := hD_a _ h; omega) | omega) | clear FB | skip
          first | replace Fk2 := Fk2.mv1 G67 (by omega) | clear Fk2 | skip
          first | replace F38 := F38.mv1 G67 (by first | exact ⟨by omega, by assumption⟩ | exact ⟨by omega, fun h => absurd h.1 (by assumption)⟩ | exact ⟨by omega, fun h => absurd h.1.1 (by assumption)⟩ | exact ⟨by omega, fun h => by first | (have h2 := h.1; have h3 := h.2; omega) | (have h2 := h; dsimp only at h2; omega)⟩ | first | omega | exact fun h => h | exact ⟨by omega, fun h => h⟩ | (intro h; first | (have := hD_l _ h; omega)) | (refine ⟨by omega, ?_⟩; intro h; first | (have := hD_l _ h; omega))) | clear F38 | skip
          first | replace F52 := F52.mv1 G67 (by first | exact (fun h => by have := hD_l _ h; omega) | omega) | clear F52 | skip
          first | replace F63 := F63.mv1 G67 (by first | exact (fun h => by have := hD_l _ h; omega) | omega) | clear F63 | skip
          replace HG := HG.new1 G67 (by first | (refine Or.inr ?_; omega) | (refine Or.inl ?_; simp; done))
          clear G67
          refine V.nil ?_
          refine V.tN ?_
          refine V.region ?_
          refine V.run T_ok 3 rfl ?_
          refine V.elem T_ok F_l rfl rfl sz22 rfl rfl rfl rfl (by first | omega | (simp only [List.length_take, List.length_drop, List.length_append, List.length_cons, List.length_nil, List.length_replicate, List.length_set, V.length_data, V.S_size]; omega)) (by first | omega | (simp only [List.length_take, List.length_drop, List.length_append, List.length_cons, List.length_nil, List.length_replicate, List.length_set, V.length_data, V.S_size]; omega)) ?_
          rintro b69 o70 cs71 hx72 hb73 hR79 hA74
          obtain ⟨x75, hx75⟩ : ∃ z', l[((i : Int)).toNat] = z' := ⟨_, rfl⟩
          rw [hx75] at hR79
          obtain ⟨a76, c77, rfl, F78⟩ := hR79
          try simp only [Int.toNat_natCast] at hx75 hx72
          obtain rfl : x49 = x75 := hx49.symm.trans hx75
          refine V.loadA T_ok (o0 := o70) (off := 0) hA74 rfl rfl rfl rfl rfl ?_
          refine V.toStr F78 Try.underlying22 Try.underlying5 Try.underlying9 rfl rfl rfl rfl ?_
          refine V.scat rfl rfl rfl rfl rfl (by first | first | omega | (simp only [List.length_take, List.length_drop, List.length_append, List.length_cons, List.length_nil, List.length_replicate, List.length_set, V.length_data, V.S_size]; omega) | (simp; omega) | (simp only [V.S_size]; simp only [ByteArray.size, List.size_toArray, List.length_cons, List.length_nil]; omega)) ?_
          refine V.run T_ok 1 rfl ?_
          refine V.nil ?_
          refine V.bN ?_
          refine V.tN ?_
          refine V.region ?_
          refine V.run T_ok 1 rfl ?_
          refine V.addN rfl rfl rfl rfl rfl (by first | omega | (simp only [List.length_take, List.length_drop, List.length_append, List.length_cons, List.length_nil, List.length_replicate, List.length_set, V.length_data, V.S_size]; omega)) (by first | omega | (simp only [List.length_take, List.length_drop, List.length_append, List.length_cons, List.length_nil, List.length_replicate, List.length_set, V.length_data, V.S_size]; omega)) ?_
          refine V.run T_ok 1 rfl ?_
          refine V.nil ?_
          refine V.tN ?_
          have hd80 : dAppend (⟨safe, safe, safe ++ more, safe⟩ : DiskV) x49 = (⟨safe, safe, safe ++ (more ++ x49), safe⟩ : DiskV) := by rw [dAppend_ok (by simp only [List.length_append]; omega), List.append_assoc]
          rw [hd80] at F65
          clear hd80
          
          exact ⟨_, (by omega), HG, (by omega), F_safe, F_l, FB, Fk2, (more ++ x49), (i + 1), rfl, (by first | omega | (simp only [List.length_append]; omega)), (by omega), (by omega), (by first | exact F65 | exact F65.mono (fun _ h => h.1) (by intro h; omega)), rfl, rfl, rfl, rfl, (by first | rfl | exact congrArg Value.string ((V.S_append _ _).trans (congrArg V.S (List.append_assoc _ _ _)))), rfl⟩
        ·
          try simp only [decide_eq_true_eq, decide_eq_false_iff_not, Bool.or_eq_true, Bool.and_eq_true, Bool.or_eq_false_iff, Bool.and_eq_false_iff, Bool.not_eq_true', Bool.not_eq_false', Int.not_lt, Int.not_le, Decidable.not_not, V.u8eq, V.S_inj, V.S_lit, V.S_lit2] at h12
          refine V.skip ?_
          refine V.bN ?_
          refine V.tN ?_
          refine V.region ?_
          refine V.run T_ok 1 rfl ?_
          refine V.addN rfl rfl rfl rfl rfl (by first | omega | (simp only [List.length_take, List.length_drop, List.length_append, List.length_cons, List.length_nil, List.length_replicate, List.length_set, V.length_data, V.S_size]; omega)) (by first | omega | (simp only [List.length_take, List.length_drop, List.length_append, List.length_cons, List.length_nil, List.length_replicate, List.length_set, V.length_data, V.S_size]; omega)) ?_
          refine V.run T_ok 1 rfl ?_
          refine V.nil ?_
          refine V.tN ?_
          
          exact ⟨_, (by omega), HG, (by omega), F_safe, F_l, FB, Fk2, (more), (i + 1), rfl, (by first | omega | (simp only [List.length_append]; omega)), (by omega), (by omega), (by first | exact F38 | exact F38.mono (fun _ h => h.1) (by intro h; omega)), rfl, rfl, rfl, rfl, (by first | rfl | exact congrArg Value.string ((V.S_append _ _).trans (congrArg V.S (List.append_assoc _ _ _)))), rfl⟩
      ·
        try simp only [decide_eq_true_eq, decide_eq_false_iff_not, Bool.or_eq_true, Bool.and_eq_true, Bool.or_eq_false_iff, Bool.and_eq_false_iff, Bool.not_eq_true', Bool.not_eq_false', Int.not_lt, Int.not_le, Decidable.not_not, V.u8eq, V.S_inj, V.S_lit, V.S_lit2] at h10
        refine V.exit ?_
        refine V.tX ?_
        refine V.tX ?_
        refine V.bE ?_
        refine V.tN ?_
        refine V.seq ?_
        refine V.region ?_
        refine V.run T_ok 2 rfl ?_
        refine V.loadO T_ok Fk2 rfl rfl rfl rfl rfl ?_
        refine V.call (dset_spec F38 FB (by first | omega | (simp only [List.length_take, List.length_drop, List.length_append, List.length_cons, List.length_nil, List.length_replicate, List.length_set, V.length_data, V.S_size]; omega))) rfl rfl rfl ?_
        rintro _ w82 ⟨rfl, F81, G83⟩
        have z84 := V.Fr.size G83
        first | replace F_safe := F_safe.mv1 G83 (by first | exact (fun h => by have := h.1; have := h.2; omega) | exact (fun h => by omega) | exact (fun h => by have := h.1.1; have := h.1.2; omega) | exact (fun h => h.2 rfl) | exact (fun h => hnk h.1) | first | omega | exact fun h => h | exact ⟨by omega, fun h => h⟩ | (intro h; first | (have := hD_l _ h; omega)) | (refine ⟨by omega, ?_⟩; intro h; first | (have := hD_l _ h; omega))) | clear F_safe | skip
        first | replace F_l := F_l.mv1 G83 (by first | exact (fun h => by have := hD_l _ h; omega) | omega) | clear F_l | skip
        first | replace FB := FB.mv1 G83 (by first | exact (fun h => by have := hD_a _ h; omega) | omega) | clear FB | skip
        first | replace Fk2 := Fk2.mv1 G83 (by omega) | clear Fk2 | skip
        first | replace F38 := F38.mv1 G83 (by first | exact ⟨by omega, by assumption⟩ | exact ⟨by omega, fun h => absurd h.1 (by assumption)⟩ | exact ⟨by omega, fun h => absurd h.1.1 (by assumption)⟩ | exact ⟨by omega, fun h => by first | (have h2 := h.1; have h3 := h.2; omega) | (have h2 := h; dsimp only at h2; omega)⟩ | first | omega | exact fun h => h | exact ⟨by omega, fun h => h⟩ | (intro h; first | (have := hD_l _ h; omega)) | (refine ⟨by omega, ?_⟩; intro h; first | (have := hD_l _ h; omega))) | clear F38 | skip
        replace HG := HG.new1 G83 (by first | (refine Or.inr ?_; omega) | (refine Or.inl ?_; simp; done))
        clear G83
        refine V.nil ?_
        refine V.tN ?_
        refine V.seq ?_
        refine V.region ?_
        refine V.run T_ok 2 rfl ?_
        have hd85 : dSet (⟨safe, safe, safe ++ more, safe⟩ : DiskV) ab = (⟨safe, safe, safe ++ more, ab⟩ : DiskV) := by rw [dSet_ok (by omega)]
        rw [hd85] at F81
        clear hd85
        refine V.loadO T_ok Fk2 rfl rfl rfl rfl rfl ?_
        refine V.run T_ok 1 rfl ?_
        refine V.loadO T_ok Fk2 rfl rfl rfl rfl rfl ?_
        refine V.run T_ok 1 rfl ?_
        refine V.loadO T_ok Fk2 rfl rfl rfl rfl rfl ?_
        refine V.call (dcrash_spec (keep := n) (torn := torn) (cell := cell) F81) rfl rfl rfl ?_
        rintro _ w89 ⟨k86, rfl, ⟨h87l, h87u⟩, F88, G90⟩
        have z91 := V.Fr.size G90
        try replace F_safe := F_safe.gr G90
        try replace F_l := F_l.gr G90
        try replace FB := FB.gr G90
        try replace Fk2 := Fk2.gr G90
        try replace F81 := F81.gr G90
        replace HG := HG.grow G90
        clear G90
        refine V.run T_ok 1 rfl ?_
        refine V.nil ?_
        refine V.tN ?_
        refine V.seq ?_
        refine V.seq ?_
        refine V.region ?_
        refine V.run T_ok 4 rfl ?_
        refine V.yes rfl rfl rfl ?_
        obtain ⟨f, hf⟩ : ∃ f, dLeft ⟨safe, safe, safe ++ more, ab⟩ n torn = f := ⟨_, rfl⟩
        have hfs : (V.S f).size = f.length := V.S_size f
        have hal : (V.S (safe ++ more)).size = safe.length + more.length := (V.S_size _).trans List.length_append
        have hsh := left_shape hf
        have hal2 : (safe ++ more).length = safe.length + more.length := List.length_append
        have hd92 : dCrash (⟨safe, safe, safe ++ more, ab⟩ : DiskV) n torn cell = (⟨f, bif cell then ab else safe, f, bif cell then ab else safe⟩ : DiskV) := by unfold dCrash; rw [hf]
        rw [hd92] at F88
        clear hd92
        refine V.call (dfile_spec F81) rfl rfl rfl ?_
        rintro _ w96 ⟨a93, c94, rfl, F95, G97⟩
        have z98 := V.Fr.size G97
        try replace F_safe := F_safe.gr G97
        try replace F_l := F_l.gr G97
        try replace FB := FB.gr G97
        try replace Fk2 := Fk2.gr G97
        try replace F81 := F81.gr G97
        try replace F88 := F88.gr G97
        replace HG := HG.grow G97
        clear G97
        refine V.yes rfl rfl rfl ?_
        refine V.toStr F95.sl Try.underlying22 Try.underlying5 Try.underlying9 rfl rfl rfl rfl ?_
        refine V.run T_ok 3 rfl ?_
        refine V.nil ?_
        refine V.tN ?_
        refine V.condN rfl (by (simp)) ?_
        refine V.skip ?_
        refine V.tN ?_
        refine V.seq ?_
        refine V.region ?_
        refine V.run T_ok 1 rfl ?_
        refine V.call (dfile_spec F88) rfl rfl rfl ?_
        rintro _ w102 ⟨a99, c100, rfl, F101, G103⟩
        have z104 := V.Fr.size G103
        try replace F_safe := F_safe.gr G103
        try replace F_l := F_l.gr G103
        try replace FB := FB.gr G103
        try replace Fk2 := Fk2.gr G103
        try replace F81 := F81.gr G103
        try replace F88 := F88.gr G103
        try replace F95 := F95.gr G103
        replace HG := HG.grow G103
        clear G103
        refine V.toStr F101.sl Try.underlying22 Try.underlying5 Try.underlying9 rfl rfl rfl rfl ?_
        refine V.run T_ok 1 rfl ?_
        refine V.nil ?_
        refine V.tN ?_
        refine V.seq ?_
        refine V.region ?_
        refine V.run T_ok 3 rfl ?_
        refine V.nil ?_
        refine V.tN ?_
        refine V.seq ?_
        refine V.seq ?_
        refine V.region ?_
        refine V.run T_ok 1 rfl ?_
        refine V.loadO T_ok Fk2 rfl rfl rfl rfl rfl ?_
        refine V.run T_ok 1 rfl ?_
        refine V.andG T_ok 4 2 98 rfl rfl rfl rfl rfl rfl rfl rfl ?_
        refine V.nil ?_
        refine V.tN ?_
        refine V.condT rfl (fun h21 => ?_) (fun h21 => ?_)
        ·
          try simp only [decide_eq_true_eq, decide_eq_false_iff_not, Bool.or_eq_true, Bool.and_eq_true, Bool.or_eq_false_iff, Bool.and_eq_false_iff, Bool.not_eq_true', Bool.not_eq_false', Int.not_lt, Int.not_le, Decidable.not_not, V.u8eq, V.S_inj, V.S_lit, V.S_lit2] at h21
          have hq := hsh.2.2.2.2 (by simp_all) (by omega)
          have hN : (((V.S f).size : Int) - 1).toNat = f.length - 1 := by omega
          have tk : f.take (((V.S f).size : Int) - 1).toNat = (safe ++ more).take (((V.S f).size : Int) - 1).toNat := by rw [hN]; exact hq.1
          refine V.region ?_
          refine V.run T_ok 1 rfl ?_
          refine V.subN rfl rfl rfl rfl rfl (by first | omega | (simp only [List.length_take, List.length_drop, List.length_append, List.length_cons, List.length_nil, List.length_replicate, List.length_set, V.length_data, V.S_size]; omega)) (by first | omega | (simp only [List.length_take, List.length_drop, List.length_append, List.length_cons, List.length_nil, List.length_replicate, List.length_set, V.length_data, V.S_size]; omega)) ?_
          refine V.run T_ok 1 rfl ?_
          refine V.nil ?_
          refine V.tN ?_
          refine V.seq ?_
          refine V.seq ?_
          refine V.drawQ mixed (by kernel_rfl) ?_
          refine V.qrun T_ok 6 rfl ?_
          refine V.qsplitF (j := 5) (t := 111) rfl rfl (by (exact decide_eq_false (by show ¬ ((V.S f).size : Int) < safe.length; omega))) ?_
          refine V.qrun T_ok 7 rfl ?_
          refine V.qsplitF (j := 12) (t := 118) rfl rfl (by (exact decide_eq_false (by show ¬ ((V.S (safe ++ more)).size : Int) < (V.S f).size; omega))) ?_
          refine V.qrun T_ok 3 rfl ?_
          refine V.qyes rfl rfl rfl ?_
          refine V.qscutL Try.underlying9 rfl rfl rfl rfl rfl (by first | omega | (simp only [List.length_take, List.length_drop, List.length_append, List.length_cons, List.length_nil, List.length_replicate, List.length_set, V.length_data, V.S_size]; omega)) (by first | omega | (simp only [List.length_take, List.length_drop, List.length_append, List.length_cons, List.length_nil, List.length_replicate, List.length_set, V.length_data, V.S_size]; omega)) ?_
          refine V.qrun T_ok 1 rfl ?_
          refine V.qyes rfl rfl rfl ?_
          refine V.qtoStr F_safe Try.underlying22 Try.underlying5 Try.underlying9 rfl rfl rfl rfl ?_
          refine V.qrun T_ok 3 rfl ?_
          refine V.qsplitF (j := 21) (t := 127) rfl rfl (by (exact decide_eq_false (fun h => h (congrArg V.S hsh.2.2.1)))) ?_
          refine V.qrun T_ok 2 rfl ?_
          refine V.qyes rfl rfl rfl ?_
          refine V.qscutL Try.underlying9 rfl rfl rfl rfl rfl (by first | omega | (simp only [List.length_take, List.length_drop, List.length_append, List.length_cons, List.length_nil, List.length_replicate, List.length_set, V.length_data, V.S_size]; omega)) (by first | omega | (simp only [List.length_take, List.length_drop, List.length_append, List.length_cons, List.length_nil, List.length_replicate, List.length_set, V.length_data, V.S_size]; omega)) ?_
          refine V.qrun T_ok 2 rfl ?_
          refine V.qyes rfl rfl rfl ?_
          refine V.qscutL Try.underlying9 rfl rfl rfl rfl rfl (by first | omega | (simp only [List.length_take, List.length_drop, List.length_append, List.length_cons, List.length_nil, List.length_replicate, List.length_set, V.length_data, V.S_size]; omega)) (by first | omega | (simp only [List.length_take, List.length_drop, List.length_append, List.length_cons, List.length_nil, List.length_replicate, List.length_set, V.length_data, V.S_size]; omega)) ?_
          refine V.qrun T_ok 3 rfl ?_
          refine V.qsplitF (j := 30) (t := 136) rfl rfl (by (exact decide_eq_false (fun h => h (congrArg V.S tk)))) ?_
          refine V.qrun T_ok 5 rfl ?_
          refine V.qsplit (j := 35) (t := 141) rfl rfl (fun g23_35 => ?_) (fun g23_35 => ?_)
          ·
            try simp only [decide_eq_true_eq, decide_eq_false_iff_not, Bool.or_eq_true, Bool.and_eq_true, Bool.or_eq_false_iff, Bool.and_eq_false_iff, Bool.not_eq_true', Bool.not_eq_false', Int.not_lt, Int.not_le, Decidable.not_not, V.u8eq, V.S_inj, V.S_lit, V.S_lit2] at g23_35
            refine V.qrun T_ok 2 rfl ?_
            refine V.qyes rfl rfl rfl ?_
            refine V.qsidx Try.underlying9 rfl rfl rfl rfl rfl (by (try simp only [V.length_data, V.S_size]); (try dsimp only); (try dsimp only at g23_35); omega) (by (try simp only [V.length_data, V.S_size]); (try dsimp only); (try dsimp only at g23_35); omega) (fun H23_38 => ?_)
            refine V.qrun T_ok 2 rfl ?_
            refine V.qyes rfl rfl rfl ?_
            refine V.qsidx Try.underlying9 rfl rfl rfl rfl rfl (by (try simp only [V.length_data, V.S_size]); (try dsimp only); (try dsimp only at g23_35); omega) (by (try simp only [V.length_data, V.S_size]); (try dsimp only); (try dsimp only at g23_35); omega) (fun H23_41 => ?_)
            refine V.qrun T_ok 3 rfl ?_
            refine V.qnil ?_
            rintro w105 G106
            have z107 := V.Fr.size G106
            try replace F_safe := F_safe.gr G106
            try replace F_l := F_l.gr G106
            try replace FB := FB.gr G106
            try replace Fk2 := Fk2.gr G106
            try replace F81 := F81.gr G106
            try replace F88 := F88.gr G106
            try replace F95 := F95.gr G106
            try replace F101 := F101.gr G106
            replace HG := HG.grow G106
            clear G106
            refine V.tN ?_
            refine V.condN rfl (by (first | rfl | (exfalso; omega) | (exfalso; dsimp only at g23_35; done) | (exfalso; dsimp only at g23_35; omega) | (refine decide_eq_false (fun he => hq.2 ?_); dsimp only at he; simp only [hN] at he; rw [List.getElem?_eq_getElem (by omega), List.getElem?_eq_getElem (by omega)]; exact congrArg some (UInt8.toNat_inj.1 (Int.ofNat.inj he))))) ?_
            refine V.skip ?_
            refine V.tN ?_
            refine V.seq ?_
            refine V.region ?_
            refine V.run T_ok 1 rfl ?_
            refine V.toStr F_safe Try.underlying22 Try.underlying5 Try.underlying9 rfl rfl rfl rfl ?_
            refine V.run T_ok 1 rfl ?_
            refine V.nil ?_
            refine V.tN ?_
            refine V.seq ?_
            refine V.seq ?_
            refine V.region ?_
            refine V.run T_ok 1 rfl ?_
            refine V.loadO T_ok Fk2 rfl rfl rfl rfl rfl ?_
            refine V.nil ?_
            refine V.tN ?_
            refine V.condT rfl (fun h26 => ?_) (fun h26 => ?_)
            ·
              try simp only [decide_eq_true_eq, decide_eq_false_iff_not, Bool.or_eq_true, Bool.and_eq_true, Bool.or_eq_false_iff, Bool.and_eq_false_iff, Bool.not_eq_true', Bool.not_eq_false', Int.not_lt, Int.not_le, Decidable.not_not, V.u8eq, V.S_inj, V.S_lit, V.S_lit2] at h26
              refine V.region ?_
              refine V.run T_ok 1 rfl ?_
              refine V.loadO T_ok Fk2 rfl rfl rfl rfl rfl ?_
              refine V.toStr FB Try.underlying22 Try.underlying5 Try.underlying9 rfl rfl rfl rfl ?_
              refine V.run T_ok 1 rfl ?_
              refine V.nil ?_
              refine V.tN ?_
              refine V.seq ?_
              refine V.region ?_
              refine V.run T_ok 1 rfl ?_
              refine V.call (dcrash_spec (keep := 0) (torn := true) (cell := true) F88) rfl rfl rfl ?_
              rintro _ w111 ⟨k108, rfl, ⟨h109l, h109u⟩, F110, G112⟩
              have z113 := V.Fr.size G112
              try replace F_safe := F_safe.gr G112
              try replace F_l := F_l.gr G112
              try replace FB := FB.gr G112
              try replace Fk2 := Fk2.gr G112
              try replace F81 := F81.gr G112
              try replace F88 := F88.gr G112
              try replace F95 := F95.gr G112
              try replace F101 := F101.gr G112
              replace HG := HG.grow G112
              clear G112
              refine V.run T_ok 1 rfl ?_
              refine V.nil ?_
              refine V.tN ?_
              refine V.seq ?_
              refine V.region ?_
              refine V.call (alive_spec) rfl rfl rfl ?_
              rintro _ w114 ⟨rfl, G115⟩
              have z116 := V.Fr.size G115
              try replace F_safe := F_safe.gr G115
              try replace F_l := F_l.gr G115
              try replace FB := FB.gr G115
              try replace Fk2 := Fk2.gr G115
              try replace F81 := F81.gr G115
              try replace F88 := F88.gr G115
              try replace F95 := F95.gr G115
              try replace F101 := F101.gr G115
              try replace F110 := F110.gr G115
              replace HG := HG.grow G115
              clear G115
              refine V.run T_ok 2 rfl ?_
              refine V.yes rfl rfl rfl ?_
              refine V.call (dcell_spec F88) rfl rfl rfl ?_
              rintro _ w120 ⟨a117, c118, rfl, F119, G121⟩
              have z122 := V.Fr.size G121
              try replace F_safe := F_safe.gr G121
              try replace F_l := F_l.gr G121
              try replace FB := FB.gr G121
              try replace Fk2 := Fk2.gr G121
              try replace F81 := F81.gr G121
              try replace F88 := F88.gr G121
              try replace F95 := F95.gr G121
              try replace F101 := F101.gr G121
              try replace F110 := F110.gr G121
              replace HG := HG.grow G121
              clear G121
              refine V.yes rfl rfl rfl ?_
              refine V.toStr F119.sl Try.underlying22 Try.underlying5 Try.underlying9 rfl rfl rfl rfl ?_
              refine V.run T_ok 4 rfl ?_
              refine V.splitT (j := 8) (t := 168) rfl rfl (by (first | rfl | (simp [dDirty]; done) | (simp [dDirty, h26]; done))) ?_
              refine V.run T_ok 1 rfl ?_
              refine V.yes rfl rfl rfl ?_
              refine V.call (ddirty_spec F88) rfl rfl rfl ?_
              rintro _ w123 ⟨rfl, G124⟩
              have z125 := V.Fr.size G124
              try replace F_safe := F_safe.gr G124
              try replace F_l := F_l.gr G124
              try replace FB := FB.gr G124
              try replace Fk2 := Fk2.gr G124
              try replace F81 := F81.gr G124
              try replace F88 := F88.gr G124
              try replace F95 := F95.gr G124
              try replace F101 := F101.gr G124
              try replace F110 := F110.gr G124
              try replace F119 := F119.gr G124
              replace HG := HG.grow G124
              clear G124
              refine V.run T_ok 3 rfl ?_
              refine V.splitT (j := 13) (t := 173) rfl rfl (by (first | rfl | (simp [dDirty]; done) | (simp [dDirty, h26]; done))) ?_
              refine V.run T_ok 5 rfl ?_
              refine V.yes rfl rfl rfl ?_
              refine V.call (dfile_spec F110) rfl rfl rfl ?_
              rintro _ w129 ⟨a126, c127, rfl, F128, G130⟩
              have z131 := V.Fr.size G130
              try replace F_safe := F_safe.gr G130
              try replace F_l := F_l.gr G130
              try replace FB := FB.gr G130
              try replace Fk2 := Fk2.gr G130
              try replace F81 := F81.gr G130
              try replace F88 := F88.gr G130
              try replace F95 := F95.gr G130
              try replace F101 := F101.gr G130
              try replace F110 := F110.gr G130
              try replace F119 := F119.gr G130
              replace HG := HG.grow G130
              clear G130
              refine V.yes rfl rfl rfl ?_
              refine V.toStr F128.sl Try.underlying22 Try.underlying5 Try.underlying9 rfl rfl rfl rfl ?_
              refine V.run T_ok 4 rfl ?_
              refine V.nil ?_
              refine V.tN ?_
              refine V.ret ?_
              refine V.done rfl ?_
              exact ⟨congrArg Value.bool (decide_eq_true (congrArg V.S (congrArg DiskV.nf dCrash_safe))), HG⟩
            ·
              try simp only [decide_eq_true_eq, decide_eq_false_iff_not, Bool.or_eq_true, Bool.and_eq_true, Bool.or_eq_false_iff, Bool.and_eq_false_iff, Bool.not_eq_true', Bool.not_eq_false', Int.not_lt, Int.not_le, Decidable.not_not, V.u8eq, V.S_inj, V.S_lit, V.S_lit2] at h26
              refine V.skip ?_
              refine V.tN ?_
              refine V.seq ?_
              refine V.region ?_
              refine V.run T_ok 1 rfl ?_
              refine V.call (dcrash_spec (keep := 0) (torn := true) (cell := true) F88) rfl rfl rfl ?_
              rintro _ w135 ⟨k132, rfl, ⟨h133l, h133u⟩, F134, G136⟩
              have z137 := V.Fr.size G136
              try replace F_safe := F_safe.gr G136
              try replace F_l := F_l.gr G136
              try replace FB := FB.gr G136
              try replace Fk2 := Fk2.gr G136
              try replace F81 := F81.gr G136
              try replace F88 := F88.gr G136
              try replace F95 := F95.gr G136
              try replace F101 := F101.gr G136
              replace HG := HG.grow G136
              clear G136
              refine V.run T_ok 1 rfl ?_
              refine V.nil ?_
              refine V.tN ?_
              refine V.seq ?_
              refine V.region ?_
              refine V.call (alive_spec) rfl rfl rfl ?_
              rintro _ w138 ⟨rfl, G139⟩
              have z140 := V.Fr.size G139
              try replace F_safe := F_safe.gr G139
              try replace F_l := F_l.gr G139
              try replace FB := FB.gr G139
              try replace Fk2 := Fk2.gr G139
              try replace F81 := F81.gr G139
              try replace F88 := F88.gr G139
              try replace F95 := F95.gr G139
              try replace F101 := F101.gr G139
              try replace F134 := F134.gr G139
              replace HG := HG.grow G139
              clear G139
              refine V.run T_ok 2 rfl ?_
              refine V.yes rfl rfl rfl ?_
              refine V.call (dcell_spec F88) rfl rfl rfl ?_
              rintro _ w144 ⟨a141, c142, rfl, F143, G145⟩
              have z146 := V.Fr.size G145
              try replace F_safe := F_safe.gr G145
              try replace F_l := F_l.gr G145
              try replace FB := FB.gr G145
              try replace Fk2 := Fk2.gr G145
              try replace F81 := F81.gr G145
              try replace F88 := F88.gr G145
              try replace F95 := F95.gr G145
              try replace F101 := F101.gr G145
              try replace F134 := F134.gr G145
              replace HG := HG.grow G145
              clear G145
              refine V.yes rfl rfl rfl ?_
              refine V.toStr F143.sl Try.underlying22 Try.underlying5 Try.underlying9 rfl rfl rfl rfl ?_
              refine V.run T_ok 4 rfl ?_
              refine V.splitT (j := 8) (t := 168) rfl rfl (by (first | rfl | (simp [dDirty]; done) | (simp [dDirty, h26]; done))) ?_
              refine V.run T_ok 1 rfl ?_
              refine V.yes rfl rfl rfl ?_
              refine V.call (ddirty_spec F88) rfl rfl rfl ?_
              rintro _ w147 ⟨rfl, G148⟩
              have z149 := V.Fr.size G148
              try replace F_safe := F_safe.gr G148
              try replace F_l := F_l.gr G148
              try replace FB := FB.gr G148
              try replace Fk2 := Fk2.gr G148
              try replace F81 := F81.gr G148
              try replace F88 := F88.gr G148
              try replace F95 := F95.gr G148
              try replace F101 := F101.gr G148
              try replace F134 := F134.gr G148
              try replace F143 := F143.gr G148
              replace HG := HG.grow G148
              clear G148
              refine V.run T_ok 3 rfl ?_
              refine V.splitT (j := 13) (t := 173) rfl rfl (by (first | rfl | (simp [dDirty]; done) | (simp [dDirty, h26]; done))) ?_
              refine V.run T_ok 5 rfl ?_
              refine V.yes rfl rfl rfl ?_
              refine V.call (dfile_spec F134) rfl rfl rfl ?_
              rintro _ w153 ⟨a150, c151, rfl, F152, G154⟩
              have z155 := V.Fr.size G154
              try replace F_safe := F_safe.gr G154
              try replace F_l := F_l.gr G154
              try replace FB := FB.gr G154
              try replace Fk2 := Fk2.gr G154
              try replace F81 := F81.gr G154
              try replace F88 := F88.gr G154
              try replace F95 := F95.gr G154
              try replace F101 := F101.gr G154
              try replace F134 := F134.gr G154
              try replace F143 := F143.gr G154
              replace HG := HG.grow G154
              clear G154
              refine V.yes rfl rfl rfl ?_
              refine V.toStr F152.sl Try.underlying22 Try.underlying5 Try.underlying9 rfl rfl rfl rfl ?_
              refine V.run T_ok 4 rfl ?_
              refine V.nil ?_
              refine V.tN ?_
              refine V.ret ?_
              refine V.done rfl ?_
              exact ⟨congrArg Value.bool (decide_eq_true (congrArg V.S (congrArg DiskV.nf dCrash_safe))), HG⟩
          ·
            try simp only [decide_eq_true_eq, decide_eq_false_iff_not, Bool.or_eq_true, Bool.and_eq_true, Bool.or_eq_false_iff, Bool.and_eq_false_iff, Bool.not_eq_true', Bool.not_eq_false', Int.not_lt, Int.not_le, Decidable.not_not, V.u8eq, V.S_inj, V.S_lit, V.S_lit2] at g23_35
            refine V.qrun T_ok 9 rfl ?_
            refine V.qnil ?_
            rintro w156 G157
            have z158 := V.Fr.size G157
            try replace F_safe := F_safe.gr G157
            try replace F_l := F_l.gr G157
            try replace FB := FB.gr G157
            try replace Fk2 := Fk2.gr G157
            try replace F81 := F81.gr G157
            try replace F88 := F88.gr G157
            try replace F95 := F95.gr G157
            try replace F101 := F101.gr G157
            replace HG := HG.grow G157
            clear G157
            refine V.tN ?_
            refine V.condN rfl (by (first | rfl | (exfalso; omega) | (exfalso; dsimp only at g23_35; done) | (exfalso; dsimp only at g23_35; omega) | (refine decide_eq_false (fun he => hq.2 ?_); dsimp only at he; simp only [hN] at he; rw [List.getElem?_eq_getElem (by omega), List.getElem?_eq_getElem (by omega)]; exact congrArg some (UInt8.toNat_inj.1 (Int.ofNat.inj he))))) ?_
            refine V.skip ?_
            refine V.tN ?_
            refine V.seq ?_
            refine V.region ?_
            refine V.run T_ok 1 rfl ?_
            refine V.toStr F_safe Try.underlying22 Try.underlying5 Try.underlying9 rfl rfl rfl rfl ?_
            refine V.run T_ok 1 rfl ?_
            refine V.nil ?_
            refine V.tN ?_
            refine V.seq ?_
            refine V.seq ?_
            refine V.region ?_
            refine V.run T_ok 1 rfl ?_
            refine V.loadO T_ok Fk2 rfl rfl rfl rfl rfl ?_
            refine V.nil ?_
            refine V.tN ?_
            refine V.condT rfl (fun h26 => ?_) (fun h26 => ?_)
            ·
              try simp only [decide_eq_true_eq, decide_eq_false_iff_not, Bool.or_eq_true, Bool.and_eq_true, Bool.or_eq_false_iff, Bool.and_eq_false_iff, Bool.not_eq_true', Bool.not_eq_false', Int.not_lt, Int.not_le, Decidable.not_not, V.u8eq, V.S_inj, V.S_lit, V.S_lit2] at h26
              refine V.region ?_
              refine V.run T_ok 1 rfl ?_
              refine V.loadO T_ok Fk2 rfl rfl rfl rfl rfl ?_
              refine V.toStr FB Try.underlying22 Try.underlying5 Try.underlying9 rfl rfl rfl rfl ?_
              refine V.run T_ok 1 rfl ?_
              refine V.nil ?_
              refine V.tN ?_
              refine V.seq ?_
              refine V.region ?_
              refine V.run T_ok 1 rfl ?_
              refine V.call (dcrash_spec (keep := 0) (torn := true) (cell := true) F88) rfl rfl rfl ?_
              rintro _ w162 ⟨k159, rfl, ⟨h160l, h160u⟩, F161, G163⟩
              have z164 := V.Fr.size G163
              try replace F_safe := F_safe.gr G163
              try replace F_l := F_l.gr G163
              try replace FB := FB.gr G163
              try replace Fk2 := Fk2.gr G163
              try replace F81 := F81.gr G163
              try replace F88 := F88.gr G163
              try replace F95 := F95.gr G163
              try replace F101 := F101.gr G163
              replace HG := HG.grow G163
              clear G163
              refine V.run T_ok 1 rfl ?_
              refine V.nil ?_
              refine V.tN ?_
              refine V.seq ?_
              refine V.region ?_
              refine V.call (alive_spec) rfl rfl rfl ?_
              rintro _ w165 ⟨rfl, G166⟩
              have z167 := V.Fr.size G166
              try replace F_safe := F_safe.gr G166
              try replace F_l := F_l.gr G166
              try replace FB := FB.gr G166
              try replace Fk2 := Fk2.gr G166
              try replace F81 := F81.gr G166
              try replace F88 := F88.gr G166
              try replace F95 := F95.gr G166
              try replace F101 := F101.gr G166
              try replace F161 := F161.gr G166
              replace HG := HG.grow G166
              clear G166
              refine V.run T_ok 2 rfl ?_
              refine V.yes rfl rfl rfl ?_
              refine V.call (dcell_spec F88) rfl rfl rfl ?_
              rintro _ w171 ⟨a168, c169, rfl, F170, G172⟩
              have z173 := V.Fr.size G172
              try replace F_safe := F_safe.gr G172
              try replace F_l := F_l.gr G172
              try replace FB := FB.gr G172
              try replace Fk2 := Fk2.gr G172
              try replace F81 := F81.gr G172
              try replace F88 := F88.gr G172
              try replace F95 := F95.gr G172
              try replace F101 := F101.gr G172
              try replace F161 := F161.gr G172
              replace HG := HG.grow G172
              clear G172
              refine V.yes rfl rfl rfl ?_
              refine V.toStr F170.sl Try.underlying22 Try.underlying5 Try.underlying9 rfl rfl rfl rfl ?_
              refine V.run T_ok 4 rfl ?_
              refine V.splitT (j := 8) (t := 168) rfl rfl (by (first | rfl | (simp [dDirty]; done) | (simp [dDirty, h26]; done))) ?_
              refine V.run T_ok 1 rfl ?_
              refine V.yes rfl rfl rfl ?_
              refine V.call (ddirty_spec F88) rfl rfl rfl ?_
              rintro _ w174 ⟨rfl, G175⟩
              have z176 := V.Fr.size G175
              try replace F_safe := F_safe.gr G175
              try replace F_l := F_l.gr G175
              try replace FB := FB.gr G175
              try replace Fk2 := Fk2.gr G175
              try replace F81 := F81.gr G175
              try replace F88 := F88.gr G175
              try replace F95 := F95.gr G175
              try replace F101 := F101.gr G175
              try replace F161 := F161.gr G175
              try replace F170 := F170.gr G175
              replace HG := HG.grow G175
              clear G175
              refine V.run T_ok 3 rfl ?_
              refine V.splitT (j := 13) (t := 173) rfl rfl (by (first | rfl | (simp [dDirty]; done) | (simp [dDirty, h26]; done))) ?_
              refine V.run T_ok 5 rfl ?_
              refine V.yes rfl rfl rfl ?_
              refine V.call (dfile_spec F161) rfl rfl rfl ?_
              rintro _ w180 ⟨a177, c178, rfl, F179, G181⟩
              have z182 := V.Fr.size G181
              try replace F_safe := F_safe.gr G181
              try replace F_l := F_l.gr G181
              try replace FB := FB.gr G181
              try replace Fk2 := Fk2.gr G181
              try replace F81 := F81.gr G181
              try replace F88 := F88.gr G181
              try replace F95 := F95.gr G181
              try replace F101 := F101.gr G181
              try replace F161 := F161.gr G181
              try replace F170 := F170.gr G181
              replace HG := HG.grow G181
              clear G181
              refine V.yes rfl rfl rfl ?_
              refine V.toStr F179.sl Try.underlying22 Try.underlying5 Try.underlying9 rfl rfl rfl rfl ?_
              refine V.run T_ok 4 rfl ?_
              refine V.nil ?_
              refine V.tN ?_
              refine V.ret ?_
              refine V.done rfl ?_
              exact ⟨congrArg Value.bool (decide_eq_true (congrArg V.S (congrArg DiskV.nf dCrash_safe))), HG⟩
            ·
              try simp only [decide_eq_true_eq, decide_eq_false_iff_not, Bool.or_eq_true, Bool.and_eq_true, Bool.or_eq_false_iff, Bool.and_eq_false_iff, Bool.not_eq_true', Bool.not_eq_false', Int.not_lt, Int.not_le, Decidable.not_not, V.u8eq, V.S_inj, V.S_lit, V.S_lit2] at h26
              refine V.skip ?_
              refine V.tN ?_
              refine V.seq ?_
              refine V.region ?_
              refine V.run T_ok 1 rfl ?_
              refine V.call (dcrash_spec (keep := 0) (torn := true) (cell := true) F88) rfl rfl rfl ?_
              rintro _ w186 ⟨k183, rfl, ⟨h184l, h184u⟩, F185, G187⟩
              have z188 := V.Fr.size G187
              try replace F_safe := F_safe.gr G187
              try replace F_l := F_l.gr G187
              try replace FB := FB.gr G187
              try replace Fk2 := Fk2.gr G187
              try replace F81 := F81.gr G187
              try replace F88 := F88.gr G187
              try replace F95 := F95.gr G187
              try replace F101 := F101.gr G187
              replace HG := HG.grow G187
              clear G187
              refine V.run T_ok 1 rfl ?_
              refine V.nil ?_
              refine V.tN ?_
              refine V.seq ?_
              refine V.region ?_
              refine V.call (alive_spec) rfl rfl rfl ?_
              rintro _ w189 ⟨rfl, G190⟩
              have z191 := V.Fr.size G190
              try replace F_safe := F_safe.gr G190
              try replace F_l := F_l.gr G190
              try replace FB := FB.gr G190
              try replace Fk2 := Fk2.gr G190
              try replace F81 := F81.gr G190
              try replace F88 := F88.gr G190
              try replace F95 := F95.gr G190
              try replace F101 := F101.gr G190
              try replace F185 := F185.gr G190
              replace HG := HG.grow G190
              clear G190
              refine V.run T_ok 2 rfl ?_
              refine V.yes rfl rfl rfl ?_
              refine V.call (dcell_spec F88) rfl rfl rfl ?_
              rintro _ w195 ⟨a192, c193, rfl, F194, G196⟩
              have z197 := V.Fr.size G196
              try replace F_safe := F_safe.gr G196
              try replace F_l := F_l.gr G196
              try replace FB := FB.gr G196
              try replace Fk2 := Fk2.gr G196
              try replace F81 := F81.gr G196
              try replace F88 := F88.gr G196
              try replace F95 := F95.gr G196
              try replace F101 := F101.gr G196
              try replace F185 := F185.gr G196
              replace HG := HG.grow G196
              clear G196
              refine V.yes rfl rfl rfl ?_
              refine V.toStr F194.sl Try.underlying22 Try.underlying5 Try.underlying9 rfl rfl rfl rfl ?_
              refine V.run T_ok 4 rfl ?_
              refine V.splitT (j := 8) (t := 168) rfl rfl (by (first | rfl | (simp [dDirty]; done) | (simp [dDirty, h26]; done))) ?_
              refine V.run T_ok 1 rfl ?_
              refine V.yes rfl rfl rfl ?_
              refine V.call (ddirty_spec F88) rfl rfl rfl ?_
              rintro _ w198 ⟨rfl, G199⟩
              have z200 := V.Fr.size G199
              try replace F_safe := F_safe.gr G199
              try replace F_l := F_l.gr G199
              try replace FB := FB.gr G199
              try replace Fk2 := Fk2.gr G199
              try replace F81 := F81.gr G199
              try replace F88 := F88.gr G199
              try replace F95 := F95.gr G199
              try replace F101 := F101.gr G199
              try replace F185 := F185.gr G199
              try replace F194 := F194.gr G199
              replace HG := HG.grow G199
              clear G199
              refine V.run T_ok 3 rfl ?_
              refine V.splitT (j := 13) (t := 173) rfl rfl (by (first | rfl | (simp [dDirty]; done) | (simp [dDirty, h26]; done))) ?_
              refine V.run T_ok 5 rfl ?_
              refine V.yes rfl rfl rfl ?_
              refine V.call (dfile_spec F185) rfl rfl rfl ?_
              rintro _ w204 ⟨a201, c202, rfl, F203, G205⟩
              have z206 := V.Fr.size G205
              try replace F_safe := F_safe.gr G205
              try replace F_l := F_l.gr G205
              try replace FB := FB.gr G205
              try replace Fk2 := Fk2.gr G205
              try replace F81 := F81.gr G205
              try replace F88 := F88.gr G205
              try replace F95 := F95.gr G205
              try replace F101 := F101.gr G205
              try replace F185 := F185.gr G205
              try replace F194 := F194.gr G205
              replace HG := HG.grow G205
              clear G205
              refine V.yes rfl rfl rfl ?_
              refine V.toStr F203.sl Try.underlying22 Try.underlying5 Try.underlying9 rfl rfl rfl rfl ?_
              refine V.run T_ok 4 rfl ?_
              refine V.nil ?_
              refine V.tN ?_
              refine V.ret ?_
              refine V.done rfl ?_
              exact ⟨congrArg Value.bool (decide_eq_true (congrArg V.S (congrArg DiskV.nf dCrash_safe))), HG⟩
        ·
          try simp only [decide_eq_true_eq, decide_eq_false_iff_not, Bool.or_eq_true, Bool.and_eq_true, Bool.or_eq_false_iff, Bool.and_eq_false_iff, Bool.not_eq_true', Bool.not_eq_false', Int.not_lt, Int.not_le, Decidable.not_not, V.u8eq, V.S_inj, V.S_lit, V.S_lit2] at h21
          have hN : (((V.S f).size : Int)).toNat = f.length := by omega
          have tk : f.take (((V.S f).size : Int)).toNat = (safe ++ more).take (((V.S f).size : Int)).toNat := by rw [hN]; exact hsh.2.2.2.1 (by rintro ⟨h1, h2⟩; simp_all; omega)
          refine V.skip ?_
          refine V.tN ?_
          refine V.seq ?_
          refine V.seq ?_
          refine V.drawQ mixed (by kernel_rfl) ?_
          refine V.qrun T_ok 6 rfl ?_
          refine V.qsplitF (j := 5) (t := 111) rfl rfl (by (exact decide_eq_false (by show ¬ ((V.S f).size : Int) < safe.length; omega))) ?_
          refine V.qrun T_ok 7 rfl ?_
          refine V.qsplitF (j := 12) (t := 118) rfl rfl (by (exact decide_eq_false (by show ¬ ((V.S (safe ++ more)).size : Int) < (V.S f).size; omega))) ?_
          refine V.qrun T_ok 3 rfl ?_
          refine V.qyes rfl rfl rfl ?_
          refine V.qscutL Try.underlying9 rfl rfl rfl rfl rfl (by first | omega | (simp only [List.length_take, List.length_drop, List.length_append, List.length_cons, List.length_nil, List.length_replicate, List.length_set, V.length_data, V.S_size]; omega)) (by first | omega | (simp only [List.length_take, List.length_drop, List.length_append, List.length_cons, List.length_nil, List.length_replicate, List.length_set, V.length_data, V.S_size]; omega)) ?_
          refine V.qrun T_ok 1 rfl ?_
          refine V.qyes rfl rfl rfl ?_
          refine V.qtoStr F_safe Try.underlying22 Try.underlying5 Try.underlying9 rfl rfl rfl rfl ?_
          refine V.qrun T_ok 3 rfl ?_
          refine V.qsplitF (j := 21) (t := 127) rfl rfl (by (exact decide_eq_false (fun h => h (congrArg V.S hsh.2.2.1)))) ?_
          refine V.qrun T_ok 2 rfl ?_
          refine V.qyes rfl rfl rfl ?_
          refine V.qscutL Try.underlying9 rfl rfl rfl rfl rfl (by first | omega | (simp only [List.length_take, List.length_drop, List.length_append, List.length_cons, List.length_nil, List.length_replicate, List.length_set, V.length_data, V.S_size]; omega)) (by first | omega | (simp only [List.length_take, List.length_drop, List.length_append, List.length_cons, List.length_nil, List.length_replicate, List.length_set, V.length_data, V.S_size]; omega)) ?_
          refine V.qrun T_ok 2 rfl ?_
          refine V.qyes rfl rfl rfl ?_
          refine V.qscutL Try.underlying9 rfl rfl rfl rfl rfl (by first | omega | (simp only [List.length_take, List.length_drop, List.length_append, List.length_cons, List.length_nil, List.length_replicate, List.length_set, V.length_data, V.S_size]; omega)) (by first | omega | (simp only [List.length_take, List.length_drop, List.length_append, List.length_cons, List.length_nil, List.length_replicate, List.length_set, V.length_data, V.S_size]; omega)) ?_
          refine V.qrun T_ok 3 rfl ?_
          refine V.qsplitF (j := 30) (t := 136) rfl rfl (by (exact decide_eq_false (fun h => h (congrArg V.S tk)))) ?_
          refine V.qrun T_ok 5 rfl ?_
          refine V.qsplit (j := 35) (t := 141) rfl rfl (fun g23_35 => ?_) (fun g23_35 => ?_)
          ·
            try simp only [decide_eq_true_eq, decide_eq_false_iff_not, Bool.or_eq_true, Bool.and_eq_true, Bool.or_eq_false_iff, Bool.and_eq_false_iff, Bool.not_eq_true', Bool.not_eq_false', Int.not_lt, Int.not_le, Decidable.not_not, V.u8eq, V.S_inj, V.S_lit, V.S_lit2] at g23_35
            refine V.qrun T_ok 2 rfl ?_
            refine V.qyes rfl rfl rfl ?_
            refine V.qsidx Try.underlying9 rfl rfl rfl rfl rfl (by (try simp only [V.length_data, V.S_size]); (try dsimp only); (try dsimp only at g23_35); omega) (by (try simp only [V.length_data, V.S_size]); (try dsimp only); (try dsimp only at g23_35); omega) (fun H23_38 => ?_)
            refine V.qrun T_ok 2 rfl ?_
            refine V.qyes rfl rfl rfl ?_
            refine V.qsidx Try.underlying9 rfl rfl rfl rfl rfl (by (try simp only [V.length_data, V.S_size]); (try dsimp only); (try dsimp only at g23_35); omega) (by (try simp only [V.length_data, V.S_size]); (try dsimp only); (try dsimp only at g23_35); omega) (fun H23_41 => ?_)
            refine V.qrun T_ok 3 rfl ?_
            refine V.qnil ?_
            rintro w207 G208
            have z209 := V.Fr.size G208
            try replace F_safe := F_safe.gr G208
            try replace F_l := F_l.gr G208
            try replace FB := FB.gr G208
            try replace Fk2 := Fk2.gr G208
            try replace F81 := F81.gr G208
            try replace F88 := F88.gr G208
            try replace F95 := F95.gr G208
            try replace F101 := F101.gr G208
            replace HG := HG.grow G208
            clear G208
            refine V.tN ?_
            refine V.condN rfl (by (first | rfl | (exfalso; omega) | (exfalso; dsimp only at g23_35; done) | (exfalso; dsimp only at g23_35; omega) | (refine decide_eq_false (fun he => hq.2 ?_); dsimp only at he; simp only [hN] at he; rw [List.getElem?_eq_getElem (by omega), List.getElem?_eq_getElem (by omega)]; exact congrArg some (UInt8.toNat_inj.1 (Int.ofNat.inj he))))) ?_
            refine V.skip ?_
            refine V.tN ?_
            refine V.seq ?_
            refine V.region ?_
            refine V.run T_ok 1 rfl ?_
            refine V.toStr F_safe Try.underlying22 Try.underlying5 Try.underlying9 rfl rfl rfl rfl ?_
            refine V.run T_ok 1 rfl ?_
            refine V.nil ?_
            refine V.tN ?_
            refine V.seq ?_
            refine V.seq ?_
            refine V.region ?_
            refine V.run T_ok 1 rfl ?_
            refine V.loadO T_ok Fk2 rfl rfl rfl rfl rfl ?_
            refine V.nil ?_
            refine V.tN ?_
            refine V.condT rfl (fun h26 => ?_) (fun h26 => ?_)
            ·
              try simp only [decide_eq_true_eq, decide_eq_false_iff_not, Bool.or_eq_true, Bool.and_eq_true, Bool.or_eq_false_iff, Bool.and_eq_false_iff, Bool.not_eq_true', Bool.not_eq_false', Int.not_lt, Int.not_le, Decidable.not_not, V.u8eq, V.S_inj, V.S_lit, V.S_lit2] at h26
              refine V.region ?_
              refine V.run T_ok 1 rfl ?_
              refine V.loadO T_ok Fk2 rfl rfl rfl rfl rfl ?_
              refine V.toStr FB Try.underlying22 Try.underlying5 Try.underlying9 rfl rfl rfl rfl ?_
              refine V.run T_ok 1 rfl ?_
              refine V.nil ?_
              refine V.tN ?_
              refine V.seq ?_
              refine V.region ?_
              refine V.run T_ok 1 rfl ?_
              refine V.call (dcrash_spec (keep := 0) (torn := true) (cell := true) F88) rfl rfl rfl ?_
              rintro _ w213 ⟨k210, rfl, ⟨h211l, h211u⟩, F212, G214⟩
              have z215 := V.Fr.size G214
              try replace F_safe := F_safe.gr G214
              try replace F_l := F_l.gr G214
              try replace FB := FB.gr G214
              try replace Fk2 := Fk2.gr G214
              try replace F81 := F81.gr G214
              try replace F88 := F88.gr G214
              try replace F95 := F95.gr G214
              try replace F101 := F101.gr G214
              replace HG := HG.grow G214
              clear G214
              refine V.run T_ok 1 rfl ?_
              refine V.nil ?_
              refine V.tN ?_
              refine V.seq ?_
              refine V.region ?_
              refine V.call (alive_spec) rfl rfl rfl ?_
              rintro _ w216 ⟨rfl, G217⟩
              have z218 := V.Fr.size G217
              try replace F_safe := F_safe.gr G217
              try replace F_l := F_l.gr G217
              try replace FB := FB.gr G217
              try replace Fk2 := Fk2.gr G217
              try replace F81 := F81.gr G217
              try replace F88 := F88.gr G217
              try replace F95 := F95.gr G217
              try replace F101 := F101.gr G217
              try replace F212 := F212.gr G217
              replace HG := HG.grow G217
              clear G217
              refine V.run T_ok 2 rfl ?_
              refine V.yes rfl rfl rfl ?_
              refine V.call (dcell_spec F88) rfl rfl rfl ?_
              rintro _ w222 ⟨a219, c220, rfl, F221, G223⟩
              have z224 := V.Fr.size G223
              try replace F_safe := F_safe.gr G223
              try replace F_l := F_l.gr G223
              try replace FB := FB.gr G223
              try replace Fk2 := Fk2.gr G223
              try replace F81 := F81.gr G223
              try replace F88 := F88.gr G223
              try replace F95 := F95.gr G223
              try replace F101 := F101.gr G223
              try replace F212 := F212.gr G223
              replace HG := HG.grow G223
              clear G223
              refine V.yes rfl rfl rfl ?_
              refine V.toStr F221.sl Try.underlying22 Try.underlying5 Try.underlying9 rfl rfl rfl rfl ?_
              refine V.run T_ok 4 rfl ?_
              refine V.splitT (j := 8) (t := 168) rfl rfl (by (first | rfl | (simp [dDirty]; done) | (simp [dDirty, h26]; done))) ?_
              refine V.run T_ok 1 rfl ?_
              refine V.yes rfl rfl rfl ?_
              refine V.call (ddirty_spec F88) rfl rfl rfl ?_
              rintro _ w225 ⟨rfl, G226⟩
              have z227 := V.Fr.size G226
              try replace F_safe := F_safe.gr G226
              try replace F_l := F_l.gr G226
              try replace FB := FB.gr G226
              try replace Fk2 := Fk2.gr G226
              try replace F81 := F81.gr G226
              try replace F88 := F88.gr G226
              try replace F95 := F95.gr G226
              try replace F101 := F101.gr G226
              try replace F212 := F212.gr G226
              try replace F221 := F221.gr G226
              replace HG := HG.grow G226
              clear G226
              refine V.run T_ok 3 rfl ?_
              refine V.splitT (j := 13) (t := 173) rfl rfl (by (first | rfl | (simp [dDirty]; done) | (simp [dDirty, h26]; done))) ?_
              refine V.run T_ok 5 rfl ?_
              refine V.yes rfl rfl rfl ?_
              refine V.call (dfile_spec F212) rfl rfl rfl ?_
              rintro _ w231 ⟨a228, c229, rfl, F230, G232⟩
              have z233 := V.Fr.size G232
              try replace F_safe := F_safe.gr G232
              try replace F_l := F_l.gr G232
              try replace FB := FB.gr G232
              try replace Fk2 := Fk2.gr G232
              try replace F81 := F81.gr G232
              try replace F88 := F88.gr G232
              try replace F95 := F95.gr G232
              try replace F101 := F101.gr G232
              try replace F212 := F212.gr G232
              try replace F221 := F221.gr G232
              replace HG := HG.grow G232
              clear G232
              refine V.yes rfl rfl rfl ?_
              refine V.toStr F230.sl Try.underlying22 Try.underlying5 Try.underlying9 rfl rfl rfl rfl ?_
              refine V.run T_ok 4 rfl ?_
              refine V.nil ?_
              refine V.tN ?_
              refine V.ret ?_
              refine V.done rfl ?_
              exact ⟨congrArg Value.bool (decide_eq_true (congrArg V.S (congrArg DiskV.nf dCrash_safe))), HG⟩
            ·
              try simp only [decide_eq_true_eq, decide_eq_false_iff_not, Bool.or_eq_true, Bool.and_eq_true, Bool.or_eq_false_iff, Bool.and_eq_false_iff, Bool.not_eq_true', Bool.not_eq_false', Int.not_lt, Int.not_le, Decidable.not_not, V.u8eq, V.S_inj, V.S_lit, V.S_lit2] at h26
              refine V.skip ?_
              refine V.tN ?_
              refine V.seq ?_
              refine V.region ?_
              refine V.run T_ok 1 rfl ?_
              refine V.call (dcrash_spec (keep := 0) (torn := true) (cell := true) F88) rfl rfl rfl ?_
              rintro _ w237 ⟨k234, rfl, ⟨h235l, h235u⟩, F236, G238⟩
              have z239 := V.Fr.size G238
              try replace F_safe := F_safe.gr G238
              try replace F_l := F_l.gr G238
              try replace FB := FB.gr G238
              try replace Fk2 := Fk2.gr G238
              try replace F81 := F81.gr G238
              try replace F88 := F88.gr G238
              try replace F95 := F95.gr G238
              try replace F101 := F101.gr G238
              replace HG := HG.grow G238
              clear G238
              refine V.run T_ok 1 rfl ?_
              refine V.nil ?_
              refine V.tN ?_
              refine V.seq ?_
              refine V.region ?_
              refine V.call (alive_spec) rfl rfl rfl ?_
              rintro _ w240 ⟨rfl, G241⟩
              have z242 := V.Fr.size G241
              try replace F_safe := F_safe.gr G241
              try replace F_l := F_l.gr G241
              try replace FB := FB.gr G241
              try replace Fk2 := Fk2.gr G241
              try replace F81 := F81.gr G241
              try replace F88 := F88.gr G241
              try replace F95 := F95.gr G241
              try replace F101 := F101.gr G241
              try replace F236 := F236.gr G241
              replace HG := HG.grow G241
              clear G241
              refine V.run T_ok 2 rfl ?_
              refine V.yes rfl rfl rfl ?_
              refine V.call (dcell_spec F88) rfl rfl rfl ?_
              rintro _ w246 ⟨a243, c244, rfl, F245, G247⟩
              have z248 := V.Fr.size G247
              try replace F_safe := F_safe.gr G247
              try replace F_l := F_l.gr G247
              try replace FB := FB.gr G247
              try replace Fk2 := Fk2.gr G247
              try replace F81 := F81.gr G247
              try replace F88 := F88.gr G247
              try replace F95 := F95.gr G247
              try replace F101 := F101.gr G247
              try replace F236 := F236.gr G247
              replace HG := HG.grow G247
              clear G247
              refine V.yes rfl rfl rfl ?_
              refine V.toStr F245.sl Try.underlying22 Try.underlying5 Try.underlying9 rfl rfl rfl rfl ?_
              refine V.run T_ok 4 rfl ?_
              refine V.splitT (j := 8) (t := 168) rfl rfl (by (first | rfl | (simp [dDirty]; done) | (simp [dDirty, h26]; done))) ?_
              refine V.run T_ok 1 rfl ?_
              refine V.yes rfl rfl rfl ?_
              refine V.call (ddirty_spec F88) rfl rfl rfl ?_
              rintro _ w249 ⟨rfl, G250⟩
              have z251 := V.Fr.size G250
              try replace F_safe := F_safe.gr G250
              try replace F_l := F_l.gr G250
              try replace FB := FB.gr G250
              try replace Fk2 := Fk2.gr G250
              try replace F81 := F81.gr G250
              try replace F88 := F88.gr G250
              try replace F95 := F95.gr G250
              try replace F101 := F101.gr G250
              try replace F236 := F236.gr G250
              try replace F245 := F245.gr G250
              replace HG := HG.grow G250
              clear G250
              refine V.run T_ok 3 rfl ?_
              refine V.splitT (j := 13) (t := 173) rfl rfl (by (first | rfl | (simp [dDirty]; done) | (simp [dDirty, h26]; done))) ?_
              refine V.run T_ok 5 rfl ?_
              refine V.yes rfl rfl rfl ?_
              refine V.call (dfile_spec F236) rfl rfl rfl ?_
              rintro _ w255 ⟨a252, c253, rfl, F254, G256⟩
              have z257 := V.Fr.size G256
              try replace F_safe := F_safe.gr G256
              try replace F_l := F_l.gr G256
              try replace FB := FB.gr G256
              try replace Fk2 := Fk2.gr G256
              try replace F81 := F81.gr G256
              try replace F88 := F88.gr G256
              try replace F95 := F95.gr G256
              try replace F101 := F101.gr G256
              try replace F236 := F236.gr G256
              try replace F245 := F245.gr G256
              replace HG := HG.grow G256
              clear G256
              refine V.yes rfl rfl rfl ?_
              refine V.toStr F254.sl Try.underlying22 Try.underlying5 Try.underlying9 rfl rfl rfl rfl ?_
              refine V.run T_ok 4 rfl ?_
              refine V.nil ?_
              refine V.tN ?_
              refine V.ret ?_
              refine V.done rfl ?_
              exact ⟨congrArg Value.bool (decide_eq_true (congrArg V.S (congrArg DiskV.nf dCrash_safe))), HG⟩
          ·
            try simp only [decide_eq_true_eq, decide_eq_false_iff_not, Bool.or_eq_true, Bool.and_eq_true, Bool.or_eq_false_iff, Bool.and_eq_false_iff, Bool.not_eq_true', Bool.not_eq_false', Int.not_lt, Int.not_le, Decidable.not_not, V.u8eq, V.S_inj, V.S_lit, V.S_lit2] at g23_35
            refine V.qrun T_ok 9 rfl ?_
            refine V.qnil ?_
            rintro w258 G259
            have z260 := V.Fr.size G259
            try replace F_safe := F_safe.gr G259
            try replace F_l := F_l.gr G259
            try replace FB := FB.gr G259
            try replace Fk2 := Fk2.gr G259
            try replace F81 := F81.gr G259
            try replace F88 := F88.gr G259
            try replace F95 := F95.gr G259
            try replace F101 := F101.gr G259
            replace HG := HG.grow G259
            clear G259
            refine V.tN ?_
            refine V.condN rfl (by (first | rfl | (exfalso; omega) | (exfalso; dsimp only at g23_35; done) | (exfalso; dsimp only at g23_35; omega) | (refine decide_eq_false (fun he => hq.2 ?_); dsimp only at he; simp only [hN] at he; rw [List.getElem?_eq_getElem (by omega), List.getElem?_eq_getElem (by omega)]; exact congrArg some (UInt8.toNat_inj.1 (Int.ofNat.inj he))))) ?_
            refine V.skip ?_
            refine V.tN ?_
            refine V.seq ?_
            refine V.region ?_
            refine V.run T_ok 1 rfl ?_
            refine V.toStr F_safe Try.underlying22 Try.underlying5 Try.underlying9 rfl rfl rfl rfl ?_
            refine V.run T_ok 1 rfl ?_
            refine V.nil ?_
            refine V.tN ?_
            refine V.seq ?_
            refine V.seq ?_
            refine V.region ?_
            refine V.run T_ok 1 rfl ?_
            refine V.loadO T_ok Fk2 rfl rfl rfl rfl rfl ?_
            refine V.nil ?_
            refine V.tN ?_
            refine V.condT rfl (fun h26 => ?_) (fun h26 => ?_)
            ·
              try simp only [decide_eq_true_eq, decide_eq_false_iff_not, Bool.or_eq_true, Bool.and_eq_true, Bool.or_eq_false_iff, Bool.and_eq_false_iff, Bool.not_eq_true', Bool.not_eq_false', Int.not_lt, Int.not_le, Decidable.not_not, V.u8eq, V.S_inj, V.S_lit, V.S_lit2] at h26
              refine V.region ?_
              refine V.run T_ok 1 rfl ?_
              refine V.loadO T_ok Fk2 rfl rfl rfl rfl rfl ?_
              refine V.toStr FB Try.underlying22 Try.underlying5 Try.underlying9 rfl rfl rfl rfl ?_
              refine V.run T_ok 1 rfl ?_
              refine V.nil ?_
              refine V.tN ?_
              refine V.seq ?_
              refine V.region ?_
              refine V.run T_ok 1 rfl ?_
              refine V.call (dcrash_spec (keep := 0) (torn := true) (cell := true) F88) rfl rfl rfl ?_
              rintro _ w264 ⟨k261, rfl, ⟨h262l, h262u⟩, F263, G265⟩
              have z266 := V.Fr.size G265
              try replace F_safe := F_safe.gr G265
              try replace F_l := F_l.gr G265
              try replace FB := FB.gr G265
              try replace Fk2 := Fk2.gr G265
              try replace F81 := F81.gr G265
              try replace F88 := F88.gr G265
              try replace F95 := F95.gr G265
              try replace F101 := F101.gr G265
              replace HG := HG.grow G265
              clear G265
              refine V.run T_ok 1 rfl ?_
              refine V.nil ?_
              refine V.tN ?_
              refine V.seq ?_
              refine V.region ?_
              refine V.call (alive_spec) rfl rfl rfl ?_
              rintro _ w267 ⟨rfl, G268⟩
              have z269 := V.Fr.size G268
              try replace F_safe := F_safe.gr G268
              try replace F_l := F_l.gr G268
              try replace FB := FB.gr G268
              try replace Fk2 := Fk2.gr G268
              try replace F81 := F81.gr G268
              try replace F88 := F88.gr G268
              try replace F95 := F95.gr G268
              try replace F101 := F101.gr G268
              try replace F263 := F263.gr G268
              replace HG := HG.grow G268
              clear G268
              refine V.run T_ok 2 rfl ?_
              refine V.yes rfl rfl rfl ?_
              refine V.call (dcell_spec F88) rfl rfl rfl ?_
              rintro _ w273 ⟨a270, c271, rfl, F272, G274⟩
              have z275 := V.Fr.size G274
              try replace F_safe := F_safe.gr G274
              try replace F_l := F_l.gr G274
              try replace FB := FB.gr G274
              try replace Fk2 := Fk2.gr G274
              try replace F81 := F81.gr G274
              try replace F88 := F88.gr G274
              try replace F95 := F95.gr G274
              try replace F101 := F101.gr G274
              try replace F263 := F263.gr G274
              replace HG := HG.grow G274
              clear G274
              refine V.yes rfl rfl rfl ?_
              refine V.toStr F272.sl Try.underlying22 Try.underlying5 Try.underlying9 rfl rfl rfl rfl ?_
              refine V.run T_ok 4 rfl ?_
              refine V.splitT (j := 8) (t := 168) rfl rfl (by (first | rfl | (simp [dDirty]; done) | (simp [dDirty, h26]; done))) ?_
              refine V.run T_ok 1 rfl ?_
              refine V.yes rfl rfl rfl ?_
              refine V.call (ddirty_spec F88) rfl rfl rfl ?_
              rintro _ w276 ⟨rfl, G277⟩
              have z278 := V.Fr.size G277
              try replace F_safe := F_safe.gr G277
              try replace F_l := F_l.gr G277
              try replace FB := FB.gr G277
              try replace Fk2 := Fk2.gr G277
              try replace F81 := F81.gr G277
              try replace F88 := F88.gr G277
              try replace F95 := F95.gr G277
              try replace F101 := F101.gr G277
              try replace F263 := F263.gr G277
              try replace F272 := F272.gr G277
              replace HG := HG.grow G277
              clear G277
              refine V.run T_ok 3 rfl ?_
              refine V.splitT (j := 13) (t := 173) rfl rfl (by (first | rfl | (simp [dDirty]; done) | (simp [dDirty, h26]; done))) ?_
              refine V.run T_ok 5 rfl ?_
              refine V.yes rfl rfl rfl ?_
              refine V.call (dfile_spec F263) rfl rfl rfl ?_
              rintro _ w282 ⟨a279, c280, rfl, F281, G283⟩
              have z284 := V.Fr.size G283
              try replace F_safe := F_safe.gr G283
              try replace F_l := F_l.gr G283
              try replace FB := FB.gr G283
              try replace Fk2 := Fk2.gr G283
              try replace F81 := F81.gr G283
              try replace F88 := F88.gr G283
              try replace F95 := F95.gr G283
              try replace F101 := F101.gr G283
              try replace F263 := F263.gr G283
              try replace F272 := F272.gr G283
              replace HG := HG.grow G283
              clear G283
              refine V.yes rfl rfl rfl ?_
              refine V.toStr F281.sl Try.underlying22 Try.underlying5 Try.underlying9 rfl rfl rfl rfl ?_
              refine V.run T_ok 4 rfl ?_
              refine V.nil ?_
              refine V.tN ?_
              refine V.ret ?_
              refine V.done rfl ?_
              exact ⟨congrArg Value.bool (decide_eq_true (congrArg V.S (congrArg DiskV.nf dCrash_safe))), HG⟩
            ·
              try simp only [decide_eq_true_eq, decide_eq_false_iff_not, Bool.or_eq_true, Bool.and_eq_true, Bool.or_eq_false_iff, Bool.and_eq_false_iff, Bool.not_eq_true', Bool.not_eq_false', Int.not_lt, Int.not_le, Decidable.not_not, V.u8eq, V.S_inj, V.S_lit, V.S_lit2] at h26
              refine V.skip ?_
              refine V.tN ?_
              refine V.seq ?_
              refine V.region ?_
              refine V.run T_ok 1 rfl ?_
              refine V.call (dcrash_spec (keep := 0) (torn := true) (cell := true) F88) rfl rfl rfl ?_
              rintro _ w288 ⟨k285, rfl, ⟨h286l, h286u⟩, F287, G289⟩
              have z290 := V.Fr.size G289
              try replace F_safe := F_safe.gr G289
              try replace F_l := F_l.gr G289
              try replace FB := FB.gr G289
              try replace Fk2 := Fk2.gr G289
              try replace F81 := F81.gr G289
              try replace F88 := F88.gr G289
              try replace F95 := F95.gr G289
              try replace F101 := F101.gr G289
              replace HG := HG.grow G289
              clear G289
              refine V.run T_ok 1 rfl ?_
              refine V.nil ?_
              refine V.tN ?_
              refine V.seq ?_
              refine V.region ?_
              refine V.call (alive_spec) rfl rfl rfl ?_
              rintro _ w291 ⟨rfl, G292⟩
              have z293 := V.Fr.size G292
              try replace F_safe := F_safe.gr G292
              try replace F_l := F_l.gr G292
              try replace FB := FB.gr G292
              try replace Fk2 := Fk2.gr G292
              try replace F81 := F81.gr G292
              try replace F88 := F88.gr G292
              try replace F95 := F95.gr G292
              try replace F101 := F101.gr G292
              try replace F287 := F287.gr G292
              replace HG := HG.grow G292
              clear G292
              refine V.run T_ok 2 rfl ?_
              refine V.yes rfl rfl rfl ?_
              refine V.call (dcell_spec F88) rfl rfl rfl ?_
              rintro _ w297 ⟨a294, c295, rfl, F296, G298⟩
              have z299 := V.Fr.size G298
              try replace F_safe := F_safe.gr G298
              try replace F_l := F_l.gr G298
              try replace FB := FB.gr G298
              try replace Fk2 := Fk2.gr G298
              try replace F81 := F81.gr G298
              try replace F88 := F88.gr G298
              try replace F95 := F95.gr G298
              try replace F101 := F101.gr G298
              try replace F287 := F287.gr G298
              replace HG := HG.grow G298
              clear G298
              refine V.yes rfl rfl rfl ?_
              refine V.toStr F296.sl Try.underlying22 Try.underlying5 Try.underlying9 rfl rfl rfl rfl ?_
              refine V.run T_ok 4 rfl ?_
              refine V.splitT (j := 8) (t := 168) rfl rfl (by (first | rfl | (simp [dDirty]; done) | (simp [dDirty, h26]; done))) ?_
              refine V.run T_ok 1 rfl ?_
              refine V.yes rfl rfl rfl ?_
              refine V.call (ddirty_spec F88) rfl rfl rfl ?_
              rintro _ w300 ⟨rfl, G301⟩
              have z302 := V.Fr.size G301
              try replace F_safe := F_safe.gr G301
              try replace F_l := F_l.gr G301
              try replace FB := FB.gr G301
              try replace Fk2 := Fk2.gr G301
              try replace F81 := F81.gr G301
              try replace F88 := F88.gr G301
              try replace F95 := F95.gr G301
              try replace F101 := F101.gr G301
              try replace F287 := F287.gr G301
              try replace F296 := F296.gr G301
              replace HG := HG.grow G301
              clear G301
              refine V.run T_ok 3 rfl ?_
              refine V.splitT (j := 13) (t := 173) rfl rfl (by (first | rfl | (simp [dDirty]; done) | (simp [dDirty, h26]; done))) ?_
              refine V.run T_ok 5 rfl ?_
              refine V.yes rfl rfl rfl ?_
              refine V.call (dfile_spec F287) rfl rfl rfl ?_
              rintro _ w306 ⟨a303, c304, rfl, F305, G307⟩
              have z308 := V.Fr.size G307
              try replace F_safe := F_safe.gr G307
              try replace F_l := F_l.gr G307
              try replace FB := FB.gr G307
              try replace Fk2 := Fk2.gr G307
              try replace F81 := F81.gr G307
              try replace F88 := F88.gr G307
              try replace F95 := F95.gr G307
              try replace F101 := F101.gr G307
              try replace F287 := F287.gr G307
              try replace F296 := F296.gr G307
              replace HG := HG.grow G307
              clear G307
              refine V.yes rfl rfl rfl ?_
              refine V.toStr F305.sl Try.underlying22 Try.underlying5 Try.underlying9 rfl rfl rfl rfl ?_
              refine V.run T_ok 4 rfl ?_
              refine V.nil ?_
              refine V.tN ?_
              refine V.ret ?_
              refine V.done rfl ?_
              exact ⟨congrArg Value.bool (decide_eq_true (congrArg V.S (congrArg DiskV.nf dCrash_safe))), HG⟩

end Go.Proofs.Ytomacafijmngnaa
