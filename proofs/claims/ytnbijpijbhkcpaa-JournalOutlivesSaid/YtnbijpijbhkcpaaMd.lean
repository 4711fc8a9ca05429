/- Proved here: walks: what functions of this seat's program return and what they leave of memory, each as a contract. Conditions: stated at each theorem. -/
import Derived.Test.YtnbijpijbhkcpaaMseal
namespace Go.Proofs.Ytnbijpijbhkcpaa
set_option linter.unusedVariables false
set_option linter.unusedSimpArgs false
open Go
open V (Bytes Meets Env Sl Own Gr Fr Cells S)

/-- a disk: the safe file and cell, the file and the cell -/
structure DiskV where
  sf : List UInt8
  sc : List UInt8
  nf : List UInt8
  nc : List UInt8
def dSync (d : DiskV) : DiskV := { d with sf := d.nf, sc := d.nc }

/-- Dsk: a disk at block k has these bytes; what they lie in is D's; all that is new is D's. -/
structure Dsk (w : World) (k : Nat) (D : Nat → Prop) (d : DiskV) : Prop where
  ex : ¬ D k ∧ (∀ j, w.heap.size ≤ j → D j) ∧ ∃ a0 c0 a1 c1 a2 c2 a3 c3, Cells w k [.slice a0 d.sf.length c0, .slice a1 d.sc.length c1, .slice a2 d.nf.length c2, .slice a3 d.nc.length c3] 72 ∧ Bytes w D a0 c0 d.sf ∧ Bytes w D a1 c1 d.sc ∧ Bytes w D a2 c2 d.nf ∧ Bytes w D a3 c3 d.nc
  small : d.sf.length ≤ 16777216 ∧ d.sc.length ≤ 16777216 ∧ d.nf.length ≤ 16777216 ∧ d.nc.length ≤ 16777216
theorem Dsk.gr {w w' : World} {k : Nat} {D : Nat → Prop} {d : DiskV} (h : Dsk w k D d) (f : Gr w w') : Dsk w' k D d :=
  let ⟨h1, h2, a0, c0, a1, c1, a2, c2, a3, c3, h3, h4, h5, h6, h7⟩ := h.ex
  ⟨⟨h1, fun j hj => h2 j (Nat.le_trans f.size hj), a0, c0, a1, c1, a2, c2, a3, c3, h3.gr f, h4.gr f, h5.gr f, h6.gr f, h7.gr f⟩, h.small⟩
theorem Dsk.mv1 {w w' : World} {k i : Nat} {D : Nat → Prop} {d : DiskV} (h : Dsk w k D d) (f : Fr [i] w w') (hn : i ≠ k ∧ ¬ D i) : Dsk w' k D d :=
  let ⟨h1, h2, a0, c0, a1, c1, a2, c2, a3, c3, h3, h4, h5, h6, h7⟩ := h.ex
  ⟨⟨h1, fun j hj => h2 j (Nat.le_trans f.size hj), a0, c0, a1, c1, a2, c2, a3, c3, h3.mv1 f hn.1, h4.mv1 f hn.2, h5.mv1 f hn.2, h6.mv1 f hn.2, h7.mv1 f hn.2⟩, h.small⟩
theorem Dsk.cut {w w' : World} {k : Nat} {D : Nat → Prop} {d : DiskV} (h : Dsk w k D d) (f : Gr w w') : Dsk w' k (fun j => D j ∧ (j < w.heap.size ∨ w'.heap.size ≤ j)) d :=
  let ⟨h1, h2, a0, c0, a1, c1, a2, c2, a3, c3, h3, h4, h5, h6, h7⟩ := h.ex
  have m : ∀ k, (D k ∧ k < w.heap.size) → D k ∧ (k < w.heap.size ∨ w'.heap.size ≤ k) := fun k h => ⟨h.1, .inl h.2⟩
  ⟨⟨fun h => h1 h.1, fun j hj => ⟨h2 j (Nat.le_trans f.size hj), .inr hj⟩, a0, c0, a1, c1, a2, c2, a3, c3, h3.gr f, (h4.flb.gr f).mono m, (h5.flb.gr f).mono m, (h6.flb.gr f).mono m, (h7.flb.gr f).mono m⟩, h.small⟩
theorem Dsk.mono {w : World} {k : Nat} {D D' : Nat → Prop} {d : DiskV} (h : Dsk w k D d) (hD : ∀ j, D j → D' j) (hk : ¬ D' k) : Dsk w k D' d :=
  let ⟨_, h2, a0, c0, a1, c1, a2, c2, a3, c3, h3, h4, h5, h6, h7⟩ := h.ex
  ⟨⟨hk, fun j hj => hD j (h2 j hj), a0, c0, a1, c1, a2, c2, a3, c3, h3, h4.mono hD, h5.mono hD, h6.mono hD, h7.mono hD⟩, h.small⟩
theorem Dsk.lt {w : World} {k : Nat} {D : Nat → Prop} {d : DiskV} (h : Dsk w k D d) : k < w.heap.size := let ⟨_, _, _, _, _, _, _, _, _, _, h3, _⟩ := h.ex; h3.lt
theorem Dsk.nk {w : World} {k : Nat} {D : Nat → Prop} {d : DiskV} (h : Dsk w k D d) : ¬ D k := h.ex.1
theorem Dsk.nw {w : World} {k : Nat} {D : Nat → Prop} {d : DiskV} (h : Dsk w k D d) : ∀ j, w.heap.size ≤ j → D j := h.ex.2.1
theorem Dsk.nil {w : World} {k : Nat} {D : Nat → Prop} (F : Cells w k [.slice none 0 0, .slice none 0 0, .slice none 0 0, .slice none 0 0] 72) (h1 : ¬ D k) (h2 : ∀ j, w.heap.size ≤ j → D j) : Dsk w k D ⟨[], [], [], []⟩ :=
  ⟨⟨h1, h2, none, 0, none, 0, none, 0, none, 0, F, Sl.nil _ _ _ _ _ (Nat.zero_le _), Sl.nil _ _ _ _ _ (Nat.zero_le _), Sl.nil _ _ _ _ _ (Nat.zero_le _), Sl.nil _ _ _ _ _ (Nat.zero_le _)⟩, by simp⟩

/-- RDsk: a disk at block k has these bytes; what they lie in is D's; all that is new is D's. -/
structure RDsk (w : World) (k : Nat) (D : Nat → Prop) (d : DiskV) : Prop where
  ex : ¬ D k ∧ (∀ j, w.heap.size ≤ j → D j) ∧ ∃ a0 c0 a1 c1 a2 c2 a3 c3, Cells w k [.slice a0 d.sf.length c0, .slice a1 d.nf.length c1, .slice a2 d.sc.length c2, .slice a3 d.nc.length c3] 30 ∧ Bytes w D a0 c0 d.sf ∧ Bytes w D a1 c1 d.nf ∧ Bytes w D a2 c2 d.sc ∧ Bytes w D a3 c3 d.nc
  small : d.sf.length ≤ 16777216 ∧ d.sc.length ≤ 16777216 ∧ d.nf.length ≤ 16777216 ∧ d.nc.length ≤ 16777216
theorem RDsk.gr {w w' : World} {k : Nat} {D : Nat → Prop} {d : DiskV} (h : RDsk w k D d) (f : Gr w w') : RDsk w' k D d :=
  let ⟨h1, h2, a0, c0, a1, c1, a2, c2, a3, c3, h3, h4, h5, h6, h7⟩ := h.ex
  ⟨⟨h1, fun j hj => h2 j (Nat.le_trans f.size hj), a0, c0, a1, c1, a2, c2, a3, c3, h3.gr f, h4.gr f, h5.gr f, h6.gr f, h7.gr f⟩, h.small⟩
theorem RDsk.mv1 {w w' : World} {k i : Nat} {D : Nat → Prop} {d : DiskV} (h : RDsk w k D d) (f : Fr [i] w w') (hn : i ≠ k ∧ ¬ D i) : RDsk w' k D d :=
  let ⟨h1, h2, a0, c0, a1, c1, a2, c2, a3, c3, h3, h4, h5, h6, h7⟩ := h.ex
  ⟨⟨h1, fun j hj => h2 j (Nat.le_trans f.size hj), a0, c0, a1, c1, a2, c2, a3, c3, h3.mv1 f hn.1, h4.mv1 f hn.2, h5.mv1 f hn.2, h6.mv1 f hn.2, h7.mv1 f hn.2⟩, h.small⟩
theorem RDsk.cut {w w' : World} {k : Nat} {D : Nat → Prop} {d : DiskV} (h : RDsk w k D d) (f : Gr w w') : RDsk w' k (fun j => D j ∧ (j < w.heap.size ∨ w'.heap.size ≤ j)) d :=
  let ⟨h1, h2, a0, c0, a1, c1, a2, c2, a3, c3, h3, h4, h5, h6, h7⟩ := h.ex
  have m : ∀ k, (D k ∧ k < w.heap.size) → D k ∧ (k < w.heap.size ∨ w'.heap.size ≤ k) := fun k h => ⟨h.1, .inl h.2⟩
  ⟨⟨fun h => h1 h.1, fun j hj => ⟨h2 j (Nat.le_trans f.size hj), .inr hj⟩, a0, c0, a1, c1, a2, c2, a3, c3, h3.gr f, (h4.flb.gr f).mono m, (h5.flb.gr f).mono m, (h6.flb.gr f).mono m, (h7.flb.gr f).mono m⟩, h.small⟩
theorem RDsk.mono {w : World} {k : Nat} {D D' : Nat → Prop} {d : DiskV} (h : RDsk w k D d) (hD : ∀ j, D j → D' j) (hk : ¬ D' k) : RDsk w k D' d :=
  let ⟨_, h2, a0, c0, a1, c1, a2, c2, a3, c3, h3, h4, h5, h6, h7⟩ := h.ex
  ⟨⟨hk, fun j hj => hD j (h2 j hj), a0, c0, a1, c1, a2, c2, a3, c3, h3, h4.mono hD, h5.mono hD, h6.mono hD, h7.mono hD⟩, h.small⟩
theorem RDsk.lt {w : World} {k : Nat} {D : Nat → Prop} {d : DiskV} (h : RDsk w k D d) : k < w.heap.size := let ⟨_, _, _, _, _, _, _, _, _, _, h3, _⟩ := h.ex; h3.lt
theorem RDsk.nk {w : World} {k : Nat} {D : Nat → Prop} {d : DiskV} (h : RDsk w k D d) : ¬ D k := h.ex.1
theorem RDsk.nw {w : World} {k : Nat} {D : Nat → Prop} {d : DiskV} (h : RDsk w k D d) : ∀ j, w.heap.size ≤ j → D j := h.ex.2.1
theorem RDsk.nil {w : World} {k : Nat} {D : Nat → Prop} (F : Cells w k [.slice none 0 0, .slice none 0 0, .slice none 0 0, .slice none 0 0] 30) (h1 : ¬ D k) (h2 : ∀ j, w.heap.size ≤ j → D j) : RDsk w k D ⟨[], [], [], []⟩ :=
  ⟨⟨h1, h2, none, 0, none, 0, none, 0, none, 0, F, Sl.nil _ _ _ _ _ (Nat.zero_le _), Sl.nil _ _ _ _ _ (Nat.zero_le _), Sl.nil _ _ _ _ _ (Nat.zero_le _), Sl.nil _ _ _ _ _ (Nat.zero_le _)⟩, by simp⟩

/-- how many first bytes two have in common -/
def comm : List UInt8 → List UInt8 → Nat
  | x :: xs, y :: ys => if x = y then comm xs ys + 1 else 0
  | _, _ => 0
theorem comm_le : ∀ (a b : List UInt8), comm a b ≤ a.length ∧ comm a b ≤ b.length
  | [], b => by unfold comm; simp
  | _ :: _, [] => by simp [comm]
  | x :: xs, y :: ys => by
    have := comm_le xs ys
    simp only [comm, List.length_cons]
    split <;> omega
theorem comm_stop {a b : List UInt8} {n : Nat} (h : n = comm (a.take n) (b.take n)) (h1 : n ≤ a.length) (h2 : n ≤ b.length) (hs : n = a.length ∨ n = b.length ∨ ∃ (h3 : n < a.length) (h4 : n < b.length), a[n] ≠ b[n]) : comm a b = n := by
  induction n generalizing a b with
  | zero =>
    cases a with
    | nil => rfl
    | cons x xs => cases b with
      | nil => rfl
      | cons y ys =>
        rcases hs with h | h | ⟨h3, h4, h5⟩
        · simp at h
        · simp at h
        · simp at h5; simp [comm, h5]
  | succ n ih =>
    cases a with
    | nil => simp at h1
    | cons x xs => cases b with
      | nil => simp at h2
      | cons y ys =>
        simp only [List.take_succ_cons, comm] at h ⊢
        by_cases hx : x = y
        · rw [if_pos hx] at h ⊢
          rw [ih (by omega) (by simpa using h1) (by simpa using h2) (by simpa using hs)]
        · rw [if_neg hx] at h; omega
theorem comm_take_succ {a b : List UInt8} {n : Nat} (h : n = comm (a.take n) (b.take n)) (h1 : n < a.length) (h2 : n < b.length) (he : a[n] = b[n]) : n + 1 = comm (a.take (n + 1)) (b.take (n + 1)) := by
  induction n generalizing a b with
  | zero =>
    cases a with
    | nil => simp at h1
    | cons x xs => cases b with
      | nil => simp at h2
      | cons y ys => simp at he; simp [comm, he]
  | succ n ih =>
    cases a with
    | nil => simp at h1
    | cons x xs => cases b with
      | nil => simp at h2
      | cons y ys =>
        simp only [List.take_succ_cons, comm] at h ⊢
        by_cases hx : x = y
        · rw [if_pos hx] at h ⊢
          have := ih (a := xs) (b := ys) (by omega) (by simpa using h1) (by simpa using h2) (by simpa using he)
          omega
        · rw [if_neg hx] at h; omega

set_option maxHeartbeats 900000 in
set_option maxRecDepth 10000 in
theorem dnew_spec {w : World}    :
    Meets Try.prog 10 [] w fun r w' => ∃ (rk23 : Nat), r = .pointer (some ⟨rk23, 0, none⟩) ∧ Cells w' rk23 [.slice none 0 0, .slice none 0 0, .slice none 0 0, .slice none 0 0] 72 ∧ (w.heap.size ≤ rk23 ∧ rk23 < w'.heap.size) ∧ Gr w w' := by
 have HG := V.Fr.refl [] w
 refine V.enter (n := 3) Try.func10 rfl rfl (by decide) rfl ?_
 refine V.seq ?_
 refine V.region ?_
 refine V.run T_ok 1 rfl ?_
 refine V.nil ?_
 refine V.tN ?_
 refine V.seq ?_
 refine V.region ?_
 refine V.mkStruct T_ok zero72 rfl rfl rfl rfl rfl ?_
 refine V.box rfl rfl rfl rfl ?_
 rintro k1 w3 s5 s6 G4 Fk2
 have z7 := V.Fr.size G4
 replace HG := HG.grow G4
 clear G4
 try simp only [V.cellsL, V.spliceL] at Fk2
 refine V.run T_ok 1 rfl ?_
 refine V.nil ?_
 refine V.tN ?_
 refine V.ret ?_
 refine V.done rfl ?_
 exact ⟨_, rfl, Fk2, ⟨by omega, by omega⟩, HG⟩

set_option maxHeartbeats 900000 in
set_option maxRecDepth 10000 in
theorem common_spec {w : World}  {D_x : Nat → Prop} {c_x : Nat} {a_x : Option Addr} {x : List UInt8} (F_x : Sl V.Cod.byte w D_x a_x c_x x) {D_y : Nat → Prop} {c_y : Nat} {a_y : Option Addr} {y : List UInt8} (F_y : Sl V.Cod.byte w D_y a_y c_y y)  :
    Meets Try.prog 77 [.slice a_x x.length c_x, .slice a_y y.length c_y] w fun r w' => r = .int .i64 (comm x y : Int) ∧ Gr w w' := by
 replace F_x := F_x.flb
 replace F_y := F_y.flb
 have HG := V.Fr.refl [] w
 refine V.enter (n := 28) Try.func77 rfl rfl (by decide) rfl ?_
 refine V.seq ?_
 refine V.region ?_
 refine V.run T_ok 1 rfl ?_
 refine V.nil ?_
 refine V.tN ?_
 refine V.seq ?_
 refine V.region ?_
 refine V.run T_ok 6 rfl ?_
 refine V.nil ?_
 refine V.tN ?_
 refine V.seq ?_
 refine V.seq ?_
 refine V.region ?_
 refine V.run T_ok 2 rfl ?_
 refine V.nil ?_
 refine V.tN ?_
 refine V.block ?_
 have hlx := F_x.len63
 have hly := F_y.len63
 refine V.loopM (fun m e v2 => Fr [] w v2 ∧ w.heap.size ≤ v2.heap.size ∧ Sl V.Cod.byte v2 (fun k => D_x k ∧ k < w.heap.size) a_x c_x x ∧ Sl V.Cod.byte v2 (fun k => D_y k ∧ k < w.heap.size) a_y c_y y ∧ ∃ (i : Nat) , m = min x.length y.length - i ∧ i ≤ x.length ∧ i ≤ y.length ∧ i = comm (x.take i) (y.take i) ∧ e 0 = .slice a_x x.length c_x ∧ e 1 = .slice a_y y.length c_y ∧ e 5 = .int .i64 (min (x.length : Int) (y.length : Int)) ∧ e 12 = .int .i64 (min (x.length : Int) (y.length : Int)) ∧ e 13 = .int .i64 (i : Int)) ?_ ?_
 ·
  exact ⟨_, HG, (by omega), F_x, F_y, (0), rfl, (by omega), (by omega), (rfl), rfl, rfl, rfl, rfl, rfl⟩
 clear HG F_x F_y
 rintro _ e v2 ⟨HG, z3, F_x, F_y, i, rfl, hi1, hi2, hic, he0_0, he0_1, he0_5, he0_12, he0_13⟩
 refine V.knownC (t := 0) he0_0 ?_
 refine V.knownC (t := 1) he0_1 ?_
 refine V.knownC (t := 5) he0_5 ?_
 refine V.knownC (t := 12) he0_12 ?_
 refine V.knownC (t := 13) he0_13 ?_
 refine V.seq ?_
 refine V.region ?_
 refine V.run T_ok 1 rfl ?_
 refine V.nil ?_
 refine V.tN ?_
 refine V.seq ?_
 refine V.condT rfl (fun h3 => ?_) (fun h3 => ?_)
 ·
  try replace h3 := V.dec h3
  try simp only [V.mk0, V.mk1, V.mk2, V.mk3] at h3
  refine V.skip ?_
  refine V.tN ?_
  refine V.seq ?_
  refine V.block ?_
  refine V.seq ?_
  refine V.region ?_
  refine V.run T_ok 2 rfl ?_
  refine V.nil ?_
  refine V.tN ?_
  refine V.seq ?_
  refine V.drawQ mixed (by kernel_rfl) ?_
  refine V.qrun T_ok 2 rfl ?_
  refine V.qelem T_ok F_x rfl rfl sz5 rfl rfl rfl rfl (by first | omega | (simp only [List.length_take, List.length_drop, List.length_append, List.length_cons, List.length_nil, List.length_replicate, List.length_set, V.length_data, V.S_size]; omega)) (by first | omega | (simp only [List.length_take, List.length_drop, List.length_append, List.length_cons, List.length_nil, List.length_replicate, List.length_set, V.length_data, V.S_size]; omega)) ?_
  rintro b4 o5 cs6 hx7 hb8 hR11 hA9
  obtain ⟨x10, hx10⟩ : ∃ z', x[((i : Int)).toNat] = z' := ⟨_, rfl⟩
  rw [hx10] at hR11
  obtain rfl := hR11
  try simp only [Int.toNat_natCast] at hx10 hx7
  refine V.qloadA T_ok (o0 := o5) (off := 0) hA9 rfl rfl rfl rfl rfl ?_
  refine V.qrun T_ok 2 rfl ?_
  refine V.qelem T_ok F_y rfl rfl sz5 rfl rfl rfl rfl (by first | omega | (simp only [List.length_take, List.length_drop, List.length_append, List.length_cons, List.length_nil, List.length_replicate, List.length_set, V.length_data, V.S_size]; omega)) (by first | omega | (simp only [List.length_take, List.length_drop, List.length_append, List.length_cons, List.length_nil, List.length_replicate, List.length_set, V.length_data, V.S_size]; omega)) ?_
  rintro b12 o13 cs14 hx15 hb16 hR19 hA17
  obtain ⟨x18, hx18⟩ : ∃ z', y[((i : Int)).toNat] = z' := ⟨_, rfl⟩
  rw [hx18] at hR19
  obtain rfl := hR19
  try simp only [Int.toNat_natCast] at hx18 hx15
  refine V.qloadA T_ok (o0 := o13) (off := 0) hA17 rfl rfl rfl rfl rfl ?_
  refine V.qrun T_ok 1 rfl ?_
  refine V.qnil ?_
  rintro w20 G21
  have z22 := V.Fr.size G21
  try replace F_x := F_x.gr G21
  try replace F_y := F_y.gr G21
  replace HG := HG.grow G21
  clear G21
  refine V.tN ?_
  refine V.condT rfl (fun h5 => ?_) (fun h5 => ?_)
  ·
   try replace h5 := V.dec h5
   try simp only [V.mk0, V.mk1, V.mk2, V.mk3] at h5
   refine V.seq ?_
   refine V.region ?_
   refine V.run T_ok 2 rfl ?_
   refine V.nil ?_
   refine V.tN ?_
   refine V.ret ?_
   refine V.bR ?_
   refine V.tR ?_
   refine V.tR ?_
   refine V.bR ?_
   refine V.tR ?_
   refine V.done rfl ?_
   rw [comm_stop hic hi1 hi2 (.inr (.inr ⟨by omega, by omega, by subst_vars; assumption⟩))]; exact ⟨rfl, HG⟩
  ·
   try replace h5 := V.dec h5
   try simp only [V.mk0, V.mk1, V.mk2, V.mk3] at h5
   refine V.skip ?_
   refine V.bN ?_
   refine V.tN ?_
   refine V.region ?_
   refine V.addN rfl rfl rfl rfl rfl (by first | omega | (simp only [List.length_take, List.length_drop, List.length_append, List.length_cons, List.length_nil, List.length_replicate, List.length_set, V.length_data, V.S_size]; omega)) (by first | omega | (simp only [List.length_take, List.length_drop, List.length_append, List.length_cons, List.length_nil, List.length_replicate, List.length_set, V.length_data, V.S_size]; omega)) ?_
   refine V.run T_ok 1 rfl ?_
   refine V.nil ?_
   refine V.tN ?_
   exact ⟨_, (by omega), HG, (by omega), F_x, F_y, (i + 1), rfl, (by omega), (by omega), (comm_take_succ hic (by omega) (by omega) (by subst_vars; assumption)), rfl, rfl, rfl, rfl, rfl⟩
 ·
  try replace h3 := V.dec h3
  try simp only [V.mk0, V.mk1, V.mk2, V.mk3] at h3
  refine V.exit ?_
  refine V.tX ?_
  refine V.tX ?_
  refine V.bE ?_
  refine V.tN ?_
  refine V.seq ?_
  refine V.region ?_
  refine V.run T_ok 2 rfl ?_
  refine V.nil ?_
  refine V.tN ?_
  refine V.ret ?_
  refine V.done rfl ?_
  rw [comm_stop hic hi1 hi2 (by omega)]; exact ⟨congrArg (Value.int .i64) (by omega), HG⟩

set_option maxHeartbeats 900000 in
set_option maxRecDepth 10000 in
theorem rcommon_spec {w : World}  {D_x : Nat → Prop} {c_x : Nat} {a_x : Option Addr} {x : List UInt8} (F_x : Sl V.Cod.byte w D_x a_x c_x x) {D_y : Nat → Prop} {c_y : Nat} {a_y : Option Addr} {y : List UInt8} (F_y : Sl V.Cod.byte w D_y a_y c_y y)  :
    Meets Try.prog 78 [.slice a_x x.length c_x, .slice a_y y.length c_y] w fun r w' => r = .int .i64 (comm x y : Int) ∧ Gr w w' := by
 replace F_x := F_x.flb
 replace F_y := F_y.flb
 have HG := V.Fr.refl [] w
 refine V.enter (n := 30) Try.func78 rfl rfl (by decide) rfl ?_
 refine V.seq ?_
 refine V.region ?_
 refine V.run T_ok 1 rfl ?_
 refine V.nil ?_
 refine V.tN ?_
 refine V.seq ?_
 refine V.region ?_
 refine V.run T_ok 1 rfl ?_
 refine V.nil ?_
 refine V.tN ?_
 refine V.seq ?_
 refine V.block ?_
 have hlx := F_x.len63
 have hly := F_y.len63
 refine V.loopM (fun m e v2 => Fr [] w v2 ∧ w.heap.size ≤ v2.heap.size ∧ Sl V.Cod.byte v2 (fun k => D_x k ∧ k < w.heap.size) a_x c_x x ∧ Sl V.Cod.byte v2 (fun k => D_y k ∧ k < w.heap.size) a_y c_y y ∧ ∃ (i : Nat) , m = min x.length y.length - i ∧ i ≤ x.length ∧ i ≤ y.length ∧ i = comm (x.take i) (y.take i) ∧ e 0 = .slice a_x x.length c_x ∧ e 1 = .slice a_y y.length c_y ∧ e 5 = .int .i64 (i : Int)) ?_ ?_
 ·
  exact ⟨_, HG, (by omega), F_x, F_y, (0), rfl, (by omega), (by omega), (rfl), rfl, rfl, rfl⟩
 clear HG F_x F_y
 rintro _ e v2 ⟨HG, z3, F_x, F_y, i, rfl, hi1, hi2, hic, he0_0, he0_1, he0_5⟩
 refine V.knownC (t := 0) he0_0 ?_
 refine V.knownC (t := 1) he0_1 ?_
 refine V.knownC (t := 5) he0_5 ?_
 refine V.seq ?_
 refine V.seq ?_
 refine V.drawQ mixed (by kernel_rfl) ?_
 refine V.qrun T_ok 5 rfl ?_
 refine V.qandG T_ok 4 4 10 rfl rfl rfl rfl rfl rfl rfl rfl ?_
 refine V.qrun T_ok 1 rfl ?_
 refine V.qsplit (j := 10) (t := 16) rfl rfl (fun g2_10 => ?_) (fun g2_10 => ?_)
 ·
  try replace g2_10 := V.dec g2_10
  try simp only [V.mk0, V.mk1, V.mk2, V.mk3] at g2_10
  refine V.qrun T_ok 2 rfl ?_
  refine V.qyes rfl rfl rfl ?_
  refine V.qelem T_ok F_x rfl rfl sz5 rfl rfl rfl rfl (by first | omega | (simp only [List.length_take, List.length_drop, List.length_append, List.length_cons, List.length_nil, List.length_replicate, List.length_set, V.length_data, V.S_size]; omega)) (by first | omega | (simp only [List.length_take, List.length_drop, List.length_append, List.length_cons, List.length_nil, List.length_replicate, List.length_set, V.length_data, V.S_size]; omega)) ?_
  rintro b4 o5 cs6 hx7 hb8 hR11 hA9
  obtain ⟨x10, hx10⟩ : ∃ z', x[((i : Int)).toNat] = z' := ⟨_, rfl⟩
  rw [hx10] at hR11
  obtain rfl := hR11
  try simp only [Int.toNat_natCast] at hx10 hx7
  refine V.qyes rfl rfl rfl ?_
  refine V.qloadA T_ok (o0 := o5) (off := 0) hA9 rfl rfl rfl rfl rfl ?_
  refine V.qrun T_ok 2 rfl ?_
  refine V.qyes rfl rfl rfl ?_
  refine V.qelem T_ok F_y rfl rfl sz5 rfl rfl rfl rfl (by first | omega | (simp only [List.length_take, List.length_drop, List.length_append, List.length_cons, List.length_nil, List.length_replicate, List.length_set, V.length_data, V.S_size]; omega)) (by first | omega | (simp only [List.length_take, List.length_drop, List.length_append, List.length_cons, List.length_nil, List.length_replicate, List.length_set, V.length_data, V.S_size]; omega)) ?_
  rintro b12 o13 cs14 hx15 hb16 hR19 hA17
  obtain ⟨x18, hx18⟩ : ∃ z', y[((i : Int)).toNat] = z' := ⟨_, rfl⟩
  rw [hx18] at hR19
  obtain rfl := hR19
  try simp only [Int.toNat_natCast] at hx18 hx15
  refine V.qyes rfl rfl rfl ?_
  refine V.qloadA T_ok (o0 := o13) (off := 0) hA17 rfl rfl rfl rfl rfl ?_
  refine V.qrun T_ok 2 rfl ?_
  refine V.qnil ?_
  rintro w20 G21
  have z22 := V.Fr.size G21
  try replace F_x := F_x.gr G21
  try replace F_y := F_y.gr G21
  replace HG := HG.grow G21
  clear G21
  refine V.tN ?_
  refine V.condT rfl (fun h2 => ?_) (fun h2 => ?_)
  ·
   try replace h2 := V.dec h2
   try simp only [V.mk0, V.mk1, V.mk2, V.mk3] at h2
   refine V.skip ?_
   refine V.tN ?_
   refine V.block ?_
   refine V.region ?_
   refine V.run T_ok 1 rfl ?_
   refine V.addN rfl rfl rfl rfl rfl (by first | omega | (simp only [List.length_take, List.length_drop, List.length_append, List.length_cons, List.length_nil, List.length_replicate, List.length_set, V.length_data, V.S_size]; omega)) (by first | omega | (simp only [List.length_take, List.length_drop, List.length_append, List.length_cons, List.length_nil, List.length_replicate, List.length_set, V.length_data, V.S_size]; omega)) ?_
   refine V.run T_ok 1 rfl ?_
   refine V.nil ?_
   refine V.bN ?_
   refine V.tN ?_
   exact ⟨_, (by omega), HG, (by omega), F_x, F_y, (i + 1), rfl, (by omega), (by omega), (comm_take_succ hic (by omega) (by omega) (by subst_vars; assumption)), rfl, rfl, rfl⟩
  ·
   try replace h2 := V.dec h2
   try simp only [V.mk0, V.mk1, V.mk2, V.mk3] at h2
   refine V.exit ?_
   refine V.tX ?_
   refine V.tX ?_
   refine V.bE ?_
   refine V.tN ?_
   refine V.seq ?_
   refine V.region ?_
   refine V.run T_ok 2 rfl ?_
   refine V.nil ?_
   refine V.tN ?_
   refine V.ret ?_
   refine V.done rfl ?_
   rw [comm_stop hic hi1 hi2 (by first | omega | exact .inr (.inr ⟨by omega, by omega, by subst_vars; assumption⟩))]; exact ⟨rfl, HG⟩
 ·
  try replace g2_10 := V.dec g2_10
  try simp only [V.mk0, V.mk1, V.mk2, V.mk3] at g2_10
  refine V.qrun T_ok 10 rfl ?_
  refine V.qnil ?_
  rintro w23 G24
  have z25 := V.Fr.size G24
  try replace F_x := F_x.gr G24
  try replace F_y := F_y.gr G24
  replace HG := HG.grow G24
  clear G24
  refine V.tN ?_
  refine V.condN rfl rfl ?_
  refine V.exit ?_
  refine V.tX ?_
  refine V.tX ?_
  refine V.bE ?_
  refine V.tN ?_
  refine V.seq ?_
  refine V.region ?_
  refine V.run T_ok 2 rfl ?_
  refine V.nil ?_
  refine V.tN ?_
  refine V.ret ?_
  refine V.done rfl ?_
  rw [comm_stop hic hi1 hi2 (by first | omega | exact .inr (.inr ⟨by omega, by omega, by subst_vars; assumption⟩))]; exact ⟨rfl, HG⟩

set_option maxHeartbeats 900000 in
set_option maxRecDepth 10000 in
theorem copied_spec {w : World}  {D_x : Nat → Prop} {c_x : Nat} {a_x : Option Addr} {x : List UInt8} (F_x : Sl V.Cod.byte w D_x a_x c_x x) {D_y : Nat → Prop} {c_y : Nat} {a_y : Option Addr} {y : List UInt8} (F_y : Sl V.Cod.byte w D_y a_y c_y y) (h1 : x.length ≤ 140737488355328) (h2 : y.length ≤ 140737488355328) :
    Meets Try.prog 62 [.agg #[.slice a_x x.length c_x, .slice a_y y.length c_y]] w fun r w' => ∃ (ra24 : Option Addr) (rc24 : Nat) (ra25 : Option Addr) (rc25 : Nat), r = .agg #[.slice ra24 x.length rc24, .slice ra25 y.length rc25] ∧ Sl V.Cod.byte w' (V.In w.heap.size w'.heap.size) ra24 rc24 x ∧ Sl V.Cod.byte w' (V.In w.heap.size w'.heap.size) ra25 rc25 y ∧ Gr w w' := by
 replace F_x := F_x.flb
 replace F_y := F_y.flb
 have HG := V.Fr.refl [] w
 refine V.enter (n := 10) Try.func62 rfl rfl (by decide) rfl ?_
 refine V.seq ?_
 refine V.region ?_
 refine V.box rfl rfl rfl rfl ?_
 rintro k1 w3 s5 s6 G4 Fk2
 have z7 := V.Fr.size G4
 try replace F_x := F_x.gr G4
 try replace F_y := F_y.gr G4
 replace HG := HG.grow G4
 clear G4
 try simp only [V.cellsL, V.spliceL] at Fk2
 refine V.alloc zero70 rfl rfl rfl ?_
 rintro k8 w10 s12 s13 G11 Fk9
 have z14 := V.Fr.size G11
 try replace F_x := F_x.gr G11
 try replace F_y := F_y.gr G11
 try replace Fk2 := Fk2.gr G11
 replace HG := HG.grow G11
 clear G11
 try simp only [V.cellsL, V.spliceL] at Fk9
 refine V.nil ?_
 refine V.tN ?_
 refine V.seq ?_
 refine V.drawGT 5 (V.sel [(2, (fun v wz => ∃ (ra1 : Option Addr) (rc1 : Nat), v = .slice ra1 x.length rc1 ∧ V.Row V.Cod.byte 5 wz V.None' w10.heap.size wz.heap.size ra1 rc1 x))]) mixed (by kernel_rfl) (V.mono_cons (by rintro v wz wz' g ⟨ra1, rc1, rfl, rF1⟩; exact ⟨ra1, rc1, rfl, (by first | exact (rF1.gr g).mono (V.In.sub (Nat.le_refl _) g.size) | exact rF1.gr g | exact (rF1.gr g).mono (fun _ h => h) (Nat.le_refl _) g.size | exact (rF1.gr g).mono (fun k h => ⟨h.1, Nat.lt_of_lt_of_le h.2 g.size⟩))⟩) V.mono_nil) ?_
 refine V.grun T_ok 1 rfl (V.sel_none rfl) ?_
 refine V.gloadO T_ok (fun w' h => Fk2.gr h.1) rfl rfl rfl rfl rfl rfl ?_
 refine V.gcall (fun w' h => (clone_spec (F_x.gr h.1) (by first | omega | (simp only [List.length_take, List.length_drop, List.length_append, List.length_cons, List.length_nil, List.length_replicate, List.length_set, V.length_data, V.S_size]; omega))).mono (by rintro v w'' ⟨ra1, rc1, rfl, rF1, G⟩; exact ⟨⟨ra1, rc1, rfl, (by first | exact rF1.mono (V.In.mono_l h.1.size) | exact rF1 | exact rF1.mono (fun _ h => h) h.1.size (Nat.le_refl _))⟩, G⟩)) rfl rfl rfl rfl ?_
 rintro _ w18 - - ⟨a15, c16, rfl, -⟩
 refine V.grun T_ok 1 rfl (V.sel_none rfl) ?_
 refine V.gloadO T_ok (fun w' h => Fk2.gr h.1) rfl rfl rfl rfl rfl rfl ?_
 refine V.gnil ?_
 rintro w19 G20 hH21
 have z22 := V.Fr.size G20
 try replace F_x := F_x.gr G20
 try replace F_y := F_y.gr G20
 try replace Fk2 := Fk2.gr G20
 try replace Fk9 := Fk9.gr G20
 replace HG := HG.grow G20
 clear G20
 have F17 : V.Row V.Cod.byte 5 w19 V.None' w10.heap.size w19.heap.size a15 c16 x := by
   obtain ⟨_, _, he, F0⟩ := (V.Hist.here (hH21 2))
   cases he
   exact F0
 clear hH21
 refine V.call (clone_spec F_y (by first | omega | (simp only [List.length_take, List.length_drop, List.length_append, List.length_cons, List.length_nil, List.length_replicate, List.length_set, V.length_data, V.S_size]; omega))) rfl rfl rfl ?_
 rintro _ w26 ⟨a23, c24, rfl, F25, G27⟩
 have z28 := V.Fr.size G27
 try replace F_x := F_x.gr G27
 try replace F_y := F_y.gr G27
 try replace Fk2 := Fk2.gr G27
 try replace Fk9 := Fk9.gr G27
 try replace F17 := F17.gr G27
 replace HG := HG.grow G27
 clear G27
 refine V.mkStruct T_ok zero70 rfl rfl rfl rfl rfl ?_
 refine V.storeO Fk9 rfl rfl rfl rfl sz70 rfl rfl rfl rfl ?_
 rintro w29 G30 z32 Fs31
 clear Fk9
 have z33 := V.Fr.size G30
 try replace F_x := F_x.ma G30
 try replace F_y := F_y.ma G30
 try replace Fk2 := Fk2.ma G30
 try replace F17 := F17.ma G30
 try replace F25 := F25.ma G30
 replace HG := HG.n1 G30
 clear G30
 have Fk9 := Fs31; clear Fs31
 simp only [V.spliceL, V.cellsL] at Fk9
 refine V.nil ?_
 refine V.tN ?_
 refine V.ret ?_
 refine V.done1 rfl (V.resV_cell T_ok Fk9 rfl rfl) ?_
 exact ⟨a15, c16, a23, c24, (by first | rfl | simp only [List.length_set]), F17.sl.re, F25.sl.re, HG⟩

set_option maxHeartbeats 900000 in
set_option maxRecDepth 10000 in
theorem dfile_nil {w : World}    :
    Meets Try.prog 18 [.pointer none] w fun r w' => r = .slice none 0 0 ∧ w = w' := by
 refine V.enter (n := 11) Try.func18 rfl rfl (by decide) rfl ?_
 refine V.seq ?_
 refine V.region ?_
 refine V.run T_ok 1 rfl ?_
 refine V.nil ?_
 refine V.tN ?_
 refine V.seq ?_
 refine V.seq ?_
 refine V.region ?_
 refine V.run T_ok 2 rfl ?_
 refine V.nil ?_
 refine V.tN ?_
 refine V.condY rfl rfl ?_
 refine V.seq ?_
 refine V.region ?_
 refine V.run T_ok 1 rfl ?_
 refine V.nil ?_
 refine V.tN ?_
 refine V.ret ?_
 refine V.tR ?_
 refine V.done rfl ?_
 exact ⟨(by first | rfl | simp only [List.length_set]), rfl⟩

set_option maxHeartbeats 900000 in
set_option maxRecDepth 10000 in
theorem dcell_nil {w : World}    :
    Meets Try.prog 31 [.pointer none] w fun r w' => r = .slice none 0 0 ∧ w = w' := by
 refine V.enter (n := 11) Try.func31 rfl rfl (by decide) rfl ?_
 refine V.seq ?_
 refine V.region ?_
 refine V.run T_ok 1 rfl ?_
 refine V.nil ?_
 refine V.tN ?_
 refine V.seq ?_
 refine V.seq ?_
 refine V.region ?_
 refine V.run T_ok 2 rfl ?_
 refine V.nil ?_
 refine V.tN ?_
 refine V.condY rfl rfl ?_
 refine V.seq ?_
 refine V.region ?_
 refine V.run T_ok 1 rfl ?_
 refine V.nil ?_
 refine V.tN ?_
 refine V.ret ?_
 refine V.tR ?_
 refine V.done rfl ?_
 exact ⟨(by first | rfl | simp only [List.length_set]), rfl⟩

set_option maxHeartbeats 900000 in
set_option maxRecDepth 10000 in
theorem dfile_spec {w : World} {k : Nat} {D : Nat → Prop} {d : DiskV} (FD : Dsk w k D d)   :
    Meets Try.prog 18 [.pointer (some ⟨k, 0, none⟩)] w fun r w' => ∃ (ra26 : Option Addr) (rc26 : Nat), r = .slice ra26 d.nf.length rc26 ∧ V.Row V.Cod.byte 5 w' V.None' w.heap.size w'.heap.size ra26 rc26 d.nf ∧ Gr w w' := by
 obtain ⟨hnk, hnew, ao0, co0, ao1, co1, ao2, co2, ao3, co3, Fk, Fo0, Fo1, Fo2, Fo3⟩ := FD.ex
 have hkl := Fk.lt
 have hl0 := Fo0.len63
 replace Fo0 := Fo0.flb
 have hl1 := Fo1.len63
 replace Fo1 := Fo1.flb
 have hl2 := Fo2.len63
 replace Fo2 := Fo2.flb
 have hl3 := Fo3.len63
 replace Fo3 := Fo3.flb
 obtain ⟨hs0, hs1, hs2, hs3⟩ := FD.small
 have HG := V.Fr.refl [] w
 refine V.enter (n := 11) Try.func18 rfl rfl (by decide) rfl ?_
 refine V.seq ?_
 refine V.region ?_
 refine V.run T_ok 1 rfl ?_
 refine V.nil ?_
 refine V.tN ?_
 refine V.seq ?_
 refine V.seq ?_
 refine V.region ?_
 refine V.run T_ok 2 rfl ?_
 refine V.nil ?_
 refine V.tN ?_
 refine V.condN rfl rfl ?_
 refine V.skip ?_
 refine V.tN ?_
 refine V.seq ?_
 refine V.region ?_
 refine V.run T_ok 4 rfl ?_
 refine V.loadO T_ok Fk rfl rfl rfl rfl rfl ?_
 refine V.call (clone_spec Fo2 (by first | omega | (simp only [List.length_take, List.length_drop, List.length_append, List.length_cons, List.length_nil, List.length_replicate, List.length_set, V.length_data, V.S_size]; omega))) rfl rfl rfl ?_
 rintro _ w4 ⟨a1, c2, rfl, F3, G5⟩
 have z6 := V.Fr.size G5
 try replace Fk := Fk.gr G5
 try replace Fo0 := Fo0.gr G5
 try replace Fo1 := Fo1.gr G5
 try replace Fo2 := Fo2.gr G5
 try replace Fo3 := Fo3.gr G5
 try replace FD := FD.gr G5
 replace HG := HG.grow G5
 clear G5
 refine V.run T_ok 1 rfl ?_
 refine V.nil ?_
 refine V.tN ?_
 refine V.ret ?_
 refine V.done rfl ?_
 exact ⟨a1, c2, (by first | rfl | simp only [List.length_set]), F3.re, HG⟩

set_option maxHeartbeats 900000 in
set_option maxRecDepth 10000 in
theorem dcell_spec {w : World} {k : Nat} {D : Nat → Prop} {d : DiskV} (FD : Dsk w k D d)   :
    Meets Try.prog 31 [.pointer (some ⟨k, 0, none⟩)] w fun r w' => ∃ (ra27 : Option Addr) (rc27 : Nat), r = .slice ra27 d.nc.length rc27 ∧ V.Row V.Cod.byte 5 w' V.None' w.heap.size w'.heap.size ra27 rc27 d.nc ∧ Gr w w' := by
 obtain ⟨hnk, hnew, ao0, co0, ao1, co1, ao2, co2, ao3, co3, Fk, Fo0, Fo1, Fo2, Fo3⟩ := FD.ex
 have hkl := Fk.lt
 have hl0 := Fo0.len63
 replace Fo0 := Fo0.flb
 have hl1 := Fo1.len63
 replace Fo1 := Fo1.flb
 have hl2 := Fo2.len63
 replace Fo2 := Fo2.flb
 have hl3 := Fo3.len63
 replace Fo3 := Fo3.flb
 obtain ⟨hs0, hs1, hs2, hs3⟩ := FD.small
 have HG := V.Fr.refl [] w
 refine V.enter (n := 11) Try.func31 rfl rfl (by decide) rfl ?_
 refine V.seq ?_
 refine V.region ?_
 refine V.run T_ok 1 rfl ?_
 refine V.nil ?_
 refine V.tN ?_
 refine V.seq ?_
 refine V.seq ?_
 refine V.region ?_
 refine V.run T_ok 2 rfl ?_
 refine V.nil ?_
 refine V.tN ?_
 refine V.condN rfl rfl ?_
 refine V.skip ?_
 refine V.tN ?_
 refine V.seq ?_
 refine V.region ?_
 refine V.run T_ok 4 rfl ?_
 refine V.loadO T_ok Fk rfl rfl rfl rfl rfl ?_
 refine V.call (clone_spec Fo3 (by first | omega | (simp only [List.length_take, List.length_drop, List.length_append, List.length_cons, List.length_nil, List.length_replicate, List.length_set, V.length_data, V.S_size]; omega))) rfl rfl rfl ?_
 rintro _ w4 ⟨a1, c2, rfl, F3, G5⟩
 have z6 := V.Fr.size G5
 try replace Fk := Fk.gr G5
 try replace Fo0 := Fo0.gr G5
 try replace Fo1 := Fo1.gr G5
 try replace Fo2 := Fo2.gr G5
 try replace Fo3 := Fo3.gr G5
 try replace FD := FD.gr G5
 replace HG := HG.grow G5
 clear G5
 refine V.run T_ok 1 rfl ?_
 refine V.nil ?_
 refine V.tN ?_
 refine V.ret ?_
 refine V.done rfl ?_
 exact ⟨a1, c2, (by first | rfl | simp only [List.length_set]), F3.re, HG⟩

set_option maxHeartbeats 900000 in
set_option maxRecDepth 10000 in
theorem dappend_nil {w : World}  {D_b : Nat → Prop} {c_b : Nat} {a_b : Option Addr} {b : List UInt8} (F_b : Sl V.Cod.byte w D_b a_b c_b b)  :
    Meets Try.prog 11 [.pointer none, .slice a_b b.length c_b] w fun r w' => r = .int .i64 1 ∧ w = w' := by
 replace F_b := F_b.flb
 refine V.enter (n := 46) Try.func11 rfl rfl (by decide) rfl ?_
 refine V.seq ?_
 refine V.region ?_
 refine V.run T_ok 1 rfl ?_
 refine V.nil ?_
 refine V.tN ?_
 refine V.seq ?_
 refine V.block ?_
 refine V.seq ?_
 refine V.region ?_
 refine V.run T_ok 3 rfl ?_
 refine V.nil ?_
 refine V.tN ?_
 refine V.condY rfl rfl ?_
 refine V.seq ?_
 refine V.region ?_
 refine V.run T_ok 1 rfl ?_
 refine V.nil ?_
 refine V.tN ?_
 refine V.ret ?_
 refine V.bR ?_
 refine V.tR ?_
 refine V.done rfl ?_
 exact ⟨(by first | rfl | simp only [List.length_set]), rfl⟩

set_option maxHeartbeats 900000 in
set_option maxRecDepth 10000 in
theorem dset_nil {w : World}  {D_b : Nat → Prop} {c_b : Nat} {a_b : Option Addr} {b : List UInt8} (F_b : Sl V.Cod.byte w D_b a_b c_b b)  :
    Meets Try.prog 12 [.pointer none, .slice a_b b.length c_b] w fun r w' => r = .int .i64 1 ∧ w = w' := by
 replace F_b := F_b.flb
 refine V.enter (n := 18) Try.func12 rfl rfl (by decide) rfl ?_
 refine V.seq ?_
 refine V.region ?_
 refine V.run T_ok 1 rfl ?_
 refine V.nil ?_
 refine V.tN ?_
 refine V.seq ?_
 refine V.block ?_
 refine V.seq ?_
 refine V.region ?_
 refine V.run T_ok 3 rfl ?_
 refine V.nil ?_
 refine V.tN ?_
 refine V.condY rfl rfl ?_
 refine V.seq ?_
 refine V.region ?_
 refine V.run T_ok 1 rfl ?_
 refine V.nil ?_
 refine V.tN ?_
 refine V.ret ?_
 refine V.bR ?_
 refine V.tR ?_
 refine V.done rfl ?_
 exact ⟨(by first | rfl | simp only [List.length_set]), rfl⟩

set_option maxHeartbeats 900000 in
set_option maxRecDepth 10000 in
theorem dcut_nil {w : World}  {n : Int}  :
    Meets Try.prog 43 [.pointer none, .int .i64 n] w fun r w' => r = .int .i64 1 ∧ w = w' := by
 refine V.enter (n := 33) Try.func43 rfl rfl (by decide) rfl ?_
 refine V.seq ?_
 refine V.region ?_
 refine V.run T_ok 1 rfl ?_
 refine V.nil ?_
 refine V.tN ?_
 refine V.seq ?_
 refine V.block ?_
 refine V.seq ?_
 refine V.region ?_
 refine V.run T_ok 3 rfl ?_
 refine V.nil ?_
 refine V.tN ?_
 refine V.condY rfl rfl ?_
 refine V.seq ?_
 refine V.region ?_
 refine V.run T_ok 1 rfl ?_
 refine V.nil ?_
 refine V.tN ?_
 refine V.ret ?_
 refine V.bR ?_
 refine V.tR ?_
 refine V.done rfl ?_
 exact ⟨(by first | rfl | simp only [List.length_set]), rfl⟩

set_option maxHeartbeats 900000 in
set_option maxRecDepth 10000 in
theorem dsync_nil {w : World}    :
    Meets Try.prog 44 [.pointer none] w fun r w' => r = .int .i64 1 ∧ w = w' := by
 refine V.enter (n := 13) Try.func44 rfl rfl (by decide) rfl ?_
 refine V.seq ?_
 refine V.region ?_
 refine V.run T_ok 1 rfl ?_
 refine V.nil ?_
 refine V.tN ?_
 refine V.seq ?_
 refine V.seq ?_
 refine V.region ?_
 refine V.run T_ok 2 rfl ?_
 refine V.nil ?_
 refine V.tN ?_
 refine V.condY rfl rfl ?_
 refine V.seq ?_
 refine V.region ?_
 refine V.run T_ok 1 rfl ?_
 refine V.nil ?_
 refine V.tN ?_
 refine V.ret ?_
 refine V.tR ?_
 refine V.done rfl ?_
 exact ⟨(by first | rfl | simp only [List.length_set]), rfl⟩


set_option maxHeartbeats 900000 in
set_option maxRecDepth 10000 in
theorem dcrash_nil {w : World}  {keep : Int} {torn : Bool} {cell : Bool}  :
    Meets Try.prog 29 [.pointer none, .int .i64 keep, .bool torn, .bool cell] w fun r w' => r = .pointer none ∧ w = w' := by
 refine V.enter (n := 35) Try.func29 rfl rfl (by decide) rfl ?_
 refine V.seq ?_
 refine V.region ?_
 refine V.run T_ok 1 rfl ?_
 refine V.nil ?_
 refine V.tN ?_
 refine V.seq ?_
 refine V.seq ?_
 refine V.region ?_
 refine V.run T_ok 2 rfl ?_
 refine V.nil ?_
 refine V.tN ?_
 refine V.condY rfl rfl ?_
 refine V.seq ?_
 refine V.region ?_
 refine V.run T_ok 1 rfl ?_
 refine V.nil ?_
 refine V.tN ?_
 refine V.ret ?_
 refine V.tR ?_
 refine V.done rfl ?_
 exact ⟨(by first | rfl | simp only [List.length_set]), rfl⟩


def dAppend (d : DiskV) (b : List UInt8) : DiskV := if 16777216 < d.nf.length + b.length then d else { d with nf := d.nf ++ b }
def eAppend (d : DiskV) (b : List UInt8) : Int := if 16777216 < d.nf.length + b.length then 61 else 0
def dCut (d : DiskV) (n : Int) : DiskV := if n < 0 ∨ d.nf.length < n then d else { d with nf := d.nf.take n.toNat }
def eCut (d : DiskV) (n : Int) : Int := if n < 0 ∨ d.nf.length < n then 61 else 0
def dSet (d : DiskV) (b : List UInt8) : DiskV := if 16777216 < b.length then d else { d with nc := b }
def eSet (b : List UInt8) : Int := if 16777216 < b.length then 61 else 0
def dDirty (d : DiskV) : Bool := !(decide (d.sf = d.nf) && decide (d.sc = d.nc))

set_option maxHeartbeats 900000 in
set_option maxRecDepth 10000 in
theorem dappend_spec {w : World} {k : Nat} {D : Nat → Prop} {d : DiskV} (FD : Dsk w k D d) {D_b : Nat → Prop} {c_b : Nat} {a_b : Option Addr} {b : List UInt8} (F_b : Sl V.Cod.byte w D_b a_b c_b b) (hb : b.length ≤ 140737488355328) :
    Meets Try.prog 11 [.pointer (some ⟨k, 0, none⟩), .slice a_b b.length c_b] w fun r w' => r = .int .i64 (eAppend d b) ∧ Dsk w' k D (dAppend d b) ∧ Fr [k] w w' := by
 replace F_b := F_b.flb
 obtain ⟨hnk, hnew, ao0, co0, ao1, co1, ao2, co2, ao3, co3, Fk, Fo0, Fo1, Fo2, Fo3⟩ := FD.ex
 have hkl := Fk.lt
 have hl0 := Fo0.len63
 replace Fo0 := Fo0.flb
 have hl1 := Fo1.len63
 replace Fo1 := Fo1.flb
 have hl2 := Fo2.len63
 replace Fo2 := Fo2.flb
 have hl3 := Fo3.len63
 replace Fo3 := Fo3.flb
 obtain ⟨hs0, hs1, hs2, hs3⟩ := FD.small
 have HG := V.Fr.refl [k] w
 refine V.enter (n := 46) Try.func11 rfl rfl (by decide) rfl ?_
 refine V.seq ?_
 refine V.region ?_
 refine V.run T_ok 1 rfl ?_
 refine V.nil ?_
 refine V.tN ?_
 refine V.seq ?_
 refine V.block ?_
 refine V.seq ?_
 refine V.region ?_
 refine V.run T_ok 3 rfl ?_
 refine V.nil ?_
 refine V.tN ?_
 refine V.condN rfl rfl ?_
 refine V.seq ?_
 refine V.region ?_
 refine V.run T_ok 4 rfl ?_
 refine V.loadO T_ok Fk rfl rfl rfl rfl rfl ?_
 refine V.run T_ok 3 rfl ?_
 refine V.addN rfl rfl rfl rfl rfl (by first | omega | (simp only [List.length_take, List.length_drop, List.length_append, List.length_cons, List.length_nil, List.length_replicate, List.length_set, V.length_data, V.S_size]; omega)) (by first | omega | (simp only [List.length_take, List.length_drop, List.length_append, List.length_cons, List.length_nil, List.length_replicate, List.length_set, V.length_data, V.S_size]; omega)) ?_
 refine V.run T_ok 2 rfl ?_
 refine V.nil ?_
 refine V.tN ?_
 refine V.condT rfl (fun h3 => ?_) (fun h3 => ?_)
 ·
  try replace h3 := V.dec h3
  try simp only [V.mk0, V.mk1, V.mk2, V.mk3] at h3
  refine V.seq ?_
  refine V.region ?_
  refine V.run T_ok 1 rfl ?_
  refine V.nil ?_
  refine V.tN ?_
  refine V.ret ?_
  refine V.bR ?_
  refine V.tR ?_
  refine V.done rfl ?_
  rw [show dAppend d b = d by unfold dAppend; rw [if_pos (by omega)], show eAppend d b = 61 by unfold eAppend; rw [if_pos (by omega)]]
  exact ⟨(by first | rfl | simp only [List.length_set]), ⟨⟨hnk, fun j hj => hnew j (by omega), _, _, _, _, _, _, _, _, Fk, (by first | exact Fo0 | exact Fo0.mono (fun k h => hnew k (by have := h.1; omega)) | exact Fo0.mono (fun k h => h.1)), (by first | exact Fo1 | exact Fo1.mono (fun k h => hnew k (by have := h.1; omega)) | exact Fo1.mono (fun k h => h.1)), (by first | exact Fo2 | exact Fo2.mono (fun k h => hnew k (by have := h.1; omega)) | exact Fo2.mono (fun k h => h.1)), (by first | exact Fo3 | exact Fo3.mono (fun k h => hnew k (by have := h.1; omega)) | exact Fo3.mono (fun k h => h.1))⟩, (by refine ⟨?_, ?_, ?_, ?_⟩ <;> (try simp only [dSync, List.length_append, List.length_take, List.length_drop, List.length_nil, List.length_replicate]) <;> omega)⟩, HG⟩
 ·
  try replace h3 := V.dec h3
  try simp only [V.mk0, V.mk1, V.mk2, V.mk3] at h3
  refine V.skip ?_
  refine V.bN ?_
  refine V.tN ?_
  refine V.seq ?_
  refine V.region ?_
  refine V.run T_ok 4 rfl ?_
  refine V.loadO T_ok Fk rfl rfl rfl rfl rfl ?_
  refine V.run T_ok 3 rfl ?_
  refine V.addN rfl rfl rfl rfl rfl (by first | omega | (simp only [List.length_take, List.length_drop, List.length_append, List.length_cons, List.length_nil, List.length_replicate, List.length_set, V.length_data, V.S_size]; omega)) (by first | omega | (simp only [List.length_take, List.length_drop, List.length_append, List.length_cons, List.length_nil, List.length_replicate, List.length_set, V.length_data, V.S_size]; omega)) ?_
  refine V.makeS (C := V.Cod.byte) (x0 := 0) elT22_22 rfl rfl rfl rfl rfl (fun _ _ => rfl) rfl (by first | omega | (simp only [List.length_take, List.length_drop, List.length_append, List.length_cons, List.length_nil, List.length_replicate, List.length_set, V.length_data, V.S_size]; omega)) rfl (by first | omega | (simp only [List.length_take, List.length_drop, List.length_append, List.length_cons, List.length_nil, List.length_replicate, List.length_set, V.length_data, V.S_size]; omega)) (by unfold maxLen; first | omega | (simp only [List.length_take, List.length_drop, List.length_append, List.length_cons, List.length_nil, List.length_replicate, List.length_set, V.length_data, V.S_size]; omega)) ?_
  rintro k1 w3 s5 s6 G4 F2
  have z7 := V.Fr.size G4
  try replace Fk := Fk.gr G4
  try replace Fo0 := Fo0.gr G4
  try replace Fo1 := Fo1.gr G4
  try replace Fo2 := Fo2.gr G4
  try replace Fo3 := Fo3.gr G4
  try replace FD := FD.gr G4
  try replace F_b := F_b.gr G4
  replace HG := HG.grow G4
  clear G4
  have hk1l : k1 ≤ k1 := Nat.le_refl _
  have hk1u : k1 < k1 + 1 := Nat.lt_succ_self _
  refine V.run T_ok 1 rfl ?_
  refine V.nil ?_
  refine V.tN ?_
  refine V.seq ?_
  refine V.region ?_
  refine V.run T_ok 6 rfl ?_
  refine V.loadO T_ok Fk rfl rfl rfl rfl rfl ?_
  refine V.copyO V.flat_byte rfl (F2) (F2.win) (by first | omega | (simp only [List.length_take, List.length_drop, List.length_append, List.length_cons, List.length_nil, List.length_replicate, List.length_set, V.length_data, V.S_size]; omega)) (Fo2) elT22_22 rfl rfl rfl rfl rfl ?_
  rintro w8 G9 z10 Fnew
  clear F2
  have z11 := V.Fr.size G9
  try replace Fk := Fk.ma G9
  try replace Fo0 := Fo0.ma G9
  try replace Fo1 := Fo1.ma G9
  try replace Fo2 := Fo2.ma G9
  try replace Fo3 := Fo3.ma G9
  first | replace FD := FD.mv1 G9 (by first | exact ⟨by omega, by assumption⟩ | exact ⟨by omega, fun h => absurd h.1 (by assumption)⟩ | exact ⟨by omega, fun h => absurd h.1.1 (by assumption)⟩ | exact ⟨by omega, fun h => by first | (have h2 := h.1; have h3 := h.2; omega) | (have h2 := h; dsimp only at h2; omega)⟩ | first | omega | exact fun h => h | exact ⟨by omega, fun h => h⟩ | (intro h; first | (have := hD _ h; omega)) | (refine ⟨by omega, ?_⟩; intro h; first | (have := hD _ h; omega))) | clear FD | skip
  try replace F_b := F_b.ma G9
  replace HG := HG.n1 G9
  clear G9
  have F2 := Fnew; clear Fnew
  refine V.cutW' T_ok F2 rfl (by first | rfl | (first | omega | (simp only [List.length_take, List.length_drop, List.length_append, List.length_cons, List.length_nil, List.length_replicate, List.length_set, V.length_data, V.S_size]; omega))) rfl rfl sz5 rfl rfl rfl rfl rfl rfl rfl (by first | omega | (simp only [List.length_take, List.length_drop, List.length_append, List.length_cons, List.length_nil, List.length_replicate, List.length_set, V.length_data, V.S_size]; omega)) (by first | omega | (simp only [List.length_take, List.length_drop, List.length_append, List.length_cons, List.length_nil, List.length_replicate, List.length_set, V.length_data, V.S_size]; omega)) (by first | omega | (simp only [List.length_take, List.length_drop, List.length_append, List.length_cons, List.length_nil, List.length_replicate, List.length_set, V.length_data, V.S_size]; omega)) ?_
  rintro a12 c13 m14 hm15 hw16
  refine V.run T_ok 1 rfl ?_
  refine V.copyO V.flat_byte rfl (F2) (hw16) (by (simp only [List.length_take, List.length_drop, List.length_append, List.length_replicate] at hm15 ⊢; omega)) (F_b) elT22_22 rfl rfl rfl rfl rfl ?_
  rintro w17 G18 z19 Fnew
  clear F2
  have z20 := V.Fr.size G18
  try replace Fk := Fk.ma G18
  try replace Fo0 := Fo0.ma G18
  try replace Fo1 := Fo1.ma G18
  try replace Fo2 := Fo2.ma G18
  try replace Fo3 := Fo3.ma G18
  first | replace FD := FD.mv1 G18 (by first | exact ⟨by omega, by assumption⟩ | exact ⟨by omega, fun h => absurd h.1 (by assumption)⟩ | exact ⟨by omega, fun h => absurd h.1.1 (by assumption)⟩ | exact ⟨by omega, fun h => by first | (have h2 := h.1; have h3 := h.2; omega) | (have h2 := h; dsimp only at h2; omega)⟩ | first | omega | exact fun h => h | exact ⟨by omega, fun h => h⟩ | (intro h; first | (have := hD _ h; omega)) | (refine ⟨by omega, ?_⟩; intro h; first | (have := hD _ h; omega))) | clear FD | skip
  try replace F_b := F_b.ma G18
  replace HG := HG.n1 G18
  clear G18
  have F2 := Fnew; clear Fnew
  refine V.nil ?_
  refine V.tN ?_
  refine V.seq ?_
  refine V.region ?_
  refine V.run T_ok 5 rfl ?_
  refine V.storeO Fk rfl rfl rfl rfl sz22 rfl rfl rfl rfl ?_
  rintro w21 G22 z24 Fs23
  clear Fk
  have z25 := V.Fr.size G22
  try replace Fo0 := Fo0.ma G22
  try replace Fo1 := Fo1.ma G22
  try replace Fo2 := Fo2.ma G22
  try replace Fo3 := Fo3.ma G22
  first | replace FD := FD.mv1 G22 (by first | exact ⟨by omega, by assumption⟩ | exact ⟨by omega, fun h => absurd h.1 (by assumption)⟩ | exact ⟨by omega, fun h => absurd h.1.1 (by assumption)⟩ | exact ⟨by omega, fun h => by first | (have h2 := h.1; have h3 := h.2; omega) | (have h2 := h; dsimp only at h2; omega)⟩ | first | omega | exact fun h => h | exact ⟨by omega, fun h => h⟩ | (intro h; first | (have := hD _ h; omega)) | (refine ⟨by omega, ?_⟩; intro h; first | (have := hD _ h; omega))) | clear FD | skip
  try replace F_b := F_b.ma G22
  first | replace F2 := F2.mv1 G22 (by first | exact ⟨by omega, fun h => h⟩) | clear F2 | skip
  replace HG := HG.n1 G22
  clear G22
  have Fk := Fs23; clear Fs23
  simp only [V.spliceL, V.cellsL] at Fk
  refine V.nil ?_
  refine V.tN ?_
  refine V.seq ?_
  refine V.region ?_
  refine V.run T_ok 1 rfl ?_
  refine V.nil ?_
  refine V.tN ?_
  refine V.ret ?_
  refine V.done rfl ?_
  have hNN : ((d.nf.length : Int) + b.length).toNat = d.nf.length + b.length := by omega
  have hcp := V.copies (List.replicate (d.nf.length + b.length) (0 : UInt8)) d.nf b (by simp)
  have hmm : m14 = b.length := by rw [hm15]; simp only [List.length_take, List.length_drop, List.length_append, List.length_replicate]; omega
  simp only [hNN, hmm, List.length_replicate, Int.toNat_natCast, Nat.min_eq_left (Nat.le_add_right d.nf.length b.length)] at F2 Fk hcp
  rw [hcp] at F2
  rw [← List.length_append] at Fk F2
  rw [show dAppend d b = { d with nf := d.nf ++ b } by unfold dAppend; rw [if_neg (by omega)], show eAppend d b = 0 by unfold eAppend; rw [if_neg (by omega)]]
  exact ⟨(by first | rfl | simp only [List.length_set]), ⟨⟨hnk, fun j hj => hnew j (by omega), _, _, _, _, _, _, _, _, Fk, (by first | exact Fo0 | exact Fo0.mono (fun k h => hnew k (by have := h.1; omega)) | exact Fo0.mono (fun k h => h.1)), (by first | exact Fo1 | exact Fo1.mono (fun k h => hnew k (by have := h.1; omega)) | exact Fo1.mono (fun k h => h.1)), (by first | exact (V.Row.back F2 hk1l hk1u).sl | exact (V.Row.back F2 hk1l hk1u).sl.mono (fun k h => hnew k (by have := h.1; omega)) | exact (V.Row.back F2 hk1l hk1u).sl.mono (fun k h => h.1)), (by first | exact Fo3 | exact Fo3.mono (fun k h => hnew k (by have := h.1; omega)) | exact Fo3.mono (fun k h => h.1))⟩, (by refine ⟨?_, ?_, ?_, ?_⟩ <;> (try simp only [dSync, List.length_append, List.length_take, List.length_drop, List.length_nil, List.length_replicate]) <;> omega)⟩, HG⟩

set_option maxHeartbeats 900000 in
set_option maxRecDepth 10000 in
theorem dset_spec {w : World} {k : Nat} {D : Nat → Prop} {d : DiskV} (FD : Dsk w k D d) {D_b : Nat → Prop} {c_b : Nat} {a_b : Option Addr} {b : List UInt8} (F_b : Sl V.Cod.byte w D_b a_b c_b b) (hb : b.length ≤ 140737488355328) :
    Meets Try.prog 12 [.pointer (some ⟨k, 0, none⟩), .slice a_b b.length c_b] w fun r w' => r = .int .i64 (eSet b) ∧ Dsk w' k D (dSet d b) ∧ Fr [k] w w' := by
 replace F_b := F_b.flb
 obtain ⟨hnk, hnew, ao0, co0, ao1, co1, ao2, co2, ao3, co3, Fk, Fo0, Fo1, Fo2, Fo3⟩ := FD.ex
 have hkl := Fk.lt
 have hl0 := Fo0.len63
 replace Fo0 := Fo0.flb
 have hl1 := Fo1.len63
 replace Fo1 := Fo1.flb
 have hl2 := Fo2.len63
 replace Fo2 := Fo2.flb
 have hl3 := Fo3.len63
 replace Fo3 := Fo3.flb
 obtain ⟨hs0, hs1, hs2, hs3⟩ := FD.small
 have HG := V.Fr.refl [k] w
 refine V.enter (n := 18) Try.func12 rfl rfl (by decide) rfl ?_
 refine V.seq ?_
 refine V.region ?_
 refine V.run T_ok 1 rfl ?_
 refine V.nil ?_
 refine V.tN ?_
 refine V.seq ?_
 refine V.block ?_
 refine V.seq ?_
 refine V.region ?_
 refine V.run T_ok 3 rfl ?_
 refine V.nil ?_
 refine V.tN ?_
 refine V.condN rfl rfl ?_
 refine V.seq ?_
 refine V.region ?_
 refine V.run T_ok 4 rfl ?_
 refine V.nil ?_
 refine V.tN ?_
 refine V.condT rfl (fun h3 => ?_) (fun h3 => ?_)
 ·
  try replace h3 := V.dec h3
  try simp only [V.mk0, V.mk1, V.mk2, V.mk3] at h3
  refine V.seq ?_
  refine V.region ?_
  refine V.run T_ok 1 rfl ?_
  refine V.nil ?_
  refine V.tN ?_
  refine V.ret ?_
  refine V.bR ?_
  refine V.tR ?_
  refine V.done rfl ?_
  rw [show dSet d b = d by unfold dSet; rw [if_pos (by omega)], show eSet b = 61 by unfold eSet; rw [if_pos (by omega)]]
  exact ⟨(by first | rfl | simp only [List.length_set]), ⟨⟨hnk, fun j hj => hnew j (by omega), _, _, _, _, _, _, _, _, Fk, (by first | exact Fo0 | exact Fo0.mono (fun k h => hnew k (by have := h.1; omega)) | exact Fo0.mono (fun k h => h.1)), (by first | exact Fo1 | exact Fo1.mono (fun k h => hnew k (by have := h.1; omega)) | exact Fo1.mono (fun k h => h.1)), (by first | exact Fo2 | exact Fo2.mono (fun k h => hnew k (by have := h.1; omega)) | exact Fo2.mono (fun k h => h.1)), (by first | exact Fo3 | exact Fo3.mono (fun k h => hnew k (by have := h.1; omega)) | exact Fo3.mono (fun k h => h.1))⟩, (by refine ⟨?_, ?_, ?_, ?_⟩ <;> (try simp only [dSync, List.length_append, List.length_take, List.length_drop, List.length_nil, List.length_replicate]) <;> omega)⟩, HG⟩
 ·
  try replace h3 := V.dec h3
  try simp only [V.mk0, V.mk1, V.mk2, V.mk3] at h3
  refine V.skip ?_
  refine V.bN ?_
  refine V.tN ?_
  refine V.seq ?_
  refine V.region ?_
  refine V.run T_ok 2 rfl ?_
  refine V.call (clone_spec F_b (by first | omega | (simp only [List.length_take, List.length_drop, List.length_append, List.length_cons, List.length_nil, List.length_replicate, List.length_set, V.length_data, V.S_size]; omega))) rfl rfl rfl ?_
  rintro _ w4 ⟨a1, c2, rfl, F3, G5⟩
  have z6 := V.Fr.size G5
  try replace Fk := Fk.gr G5
  try replace Fo0 := Fo0.gr G5
  try replace Fo1 := Fo1.gr G5
  try replace Fo2 := Fo2.gr G5
  try replace Fo3 := Fo3.gr G5
  try replace FD := FD.gr G5
  try replace F_b := F_b.gr G5
  replace HG := HG.grow G5
  clear G5
  refine V.run T_ok 3 rfl ?_
  refine V.storeO Fk rfl rfl rfl rfl sz22 rfl rfl rfl rfl ?_
  rintro w7 G8 z10 Fs9
  clear Fk
  have z11 := V.Fr.size G8
  try replace Fo0 := Fo0.ma G8
  try replace Fo1 := Fo1.ma G8
  try replace Fo2 := Fo2.ma G8
  try replace Fo3 := Fo3.ma G8
  first | replace FD := FD.mv1 G8 (by first | exact ⟨by omega, by assumption⟩ | exact ⟨by omega, fun h => absurd h.1 (by assumption)⟩ | exact ⟨by omega, fun h => absurd h.1.1 (by assumption)⟩ | exact ⟨by omega, fun h => by first | (have h2 := h.1; have h3 := h.2; omega) | (have h2 := h; dsimp only at h2; omega)⟩ | first | omega | exact fun h => h | exact ⟨by omega, fun h => h⟩ | (intro h; first | (have := hD _ h; omega)) | (refine ⟨by omega, ?_⟩; intro h; first | (have := hD _ h; omega))) | clear FD | skip
  try replace F_b := F_b.ma G8
  try replace F3 := F3.ma G8
  replace HG := HG.n1 G8
  clear G8
  have Fk := Fs9; clear Fs9
  simp only [V.spliceL, V.cellsL] at Fk
  refine V.nil ?_
  refine V.tN ?_
  refine V.seq ?_
  refine V.region ?_
  refine V.run T_ok 1 rfl ?_
  refine V.nil ?_
  refine V.tN ?_
  refine V.ret ?_
  refine V.done rfl ?_
  rw [show dSet d b = { d with nc := b } by unfold dSet; rw [if_neg (by omega)], show eSet b = 0 by unfold eSet; rw [if_neg (by omega)]]
  exact ⟨(by first | rfl | simp only [List.length_set]), ⟨⟨hnk, fun j hj => hnew j (by omega), _, _, _, _, _, _, _, _, Fk, (by first | exact Fo0 | exact Fo0.mono (fun k h => hnew k (by have := h.1; omega)) | exact Fo0.mono (fun k h => h.1)), (by first | exact Fo1 | exact Fo1.mono (fun k h => hnew k (by have := h.1; omega)) | exact Fo1.mono (fun k h => h.1)), (by first | exact Fo2 | exact Fo2.mono (fun k h => hnew k (by have := h.1; omega)) | exact Fo2.mono (fun k h => h.1)), (by first | exact F3.sl | exact F3.sl.mono (fun k h => hnew k (by have := h.1; omega)) | exact F3.sl.mono (fun k h => h.1))⟩, (by refine ⟨?_, ?_, ?_, ?_⟩ <;> (try simp only [dSync, List.length_append, List.length_take, List.length_drop, List.length_nil, List.length_replicate]) <;> omega)⟩, HG⟩

set_option maxHeartbeats 900000 in
set_option maxRecDepth 10000 in
theorem dcut_spec {w : World} {k : Nat} {D : Nat → Prop} {d : DiskV} (FD : Dsk w k D d) {n : Int}  :
    Meets Try.prog 43 [.pointer (some ⟨k, 0, none⟩), .int .i64 n] w fun r w' => r = .int .i64 (eCut d n) ∧ Dsk w' k D (dCut d n) ∧ Fr [k] w w' := by
 obtain ⟨hnk, hnew, ao0, co0, ao1, co1, ao2, co2, ao3, co3, Fk, Fo0, Fo1, Fo2, Fo3⟩ := FD.ex
 have hkl := Fk.lt
 have hl0 := Fo0.len63
 replace Fo0 := Fo0.flb
 have hl1 := Fo1.len63
 replace Fo1 := Fo1.flb
 have hl2 := Fo2.len63
 replace Fo2 := Fo2.flb
 have hl3 := Fo3.len63
 replace Fo3 := Fo3.flb
 obtain ⟨hs0, hs1, hs2, hs3⟩ := FD.small
 have HG := V.Fr.refl [k] w
 refine V.enter (n := 33) Try.func43 rfl rfl (by decide) rfl ?_
 refine V.seq ?_
 refine V.region ?_
 refine V.run T_ok 1 rfl ?_
 refine V.nil ?_
 refine V.tN ?_
 refine V.seq ?_
 refine V.block ?_
 refine V.seq ?_
 refine V.region ?_
 refine V.run T_ok 3 rfl ?_
 refine V.nil ?_
 refine V.tN ?_
 refine V.condN rfl rfl ?_
 refine V.seq ?_
 refine V.region ?_
 refine V.run T_ok 3 rfl ?_
 refine V.split (j := 2) (t := 11) rfl rfl (fun g3_2 => ?_) (fun g3_2 => ?_)
 ·
  try replace g3_2 := V.dec g3_2
  try simp only [V.mk0, V.mk1, V.mk2, V.mk3] at g3_2
  refine V.run T_ok 10 rfl ?_
  refine V.nil ?_
  refine V.tN ?_
  refine V.condY rfl rfl ?_
  refine V.seq ?_
  refine V.region ?_
  refine V.run T_ok 1 rfl ?_
  refine V.nil ?_
  refine V.tN ?_
  refine V.ret ?_
  refine V.bR ?_
  refine V.tR ?_
  refine V.done rfl ?_
  rw [show dCut d n = d by unfold dCut; rw [if_pos (by omega)], show eCut d n = 61 by unfold eCut; rw [if_pos (by omega)]]
  exact ⟨(by first | rfl | simp only [List.length_set]), ⟨⟨hnk, fun j hj => hnew j (by omega), _, _, _, _, _, _, _, _, Fk, (by first | exact Fo0 | exact Fo0.mono (fun k h => hnew k (by have := h.1; omega)) | exact Fo0.mono (fun k h => h.1)), (by first | exact Fo1 | exact Fo1.mono (fun k h => hnew k (by have := h.1; omega)) | exact Fo1.mono (fun k h => h.1)), (by first | exact Fo2 | exact Fo2.mono (fun k h => hnew k (by have := h.1; omega)) | exact Fo2.mono (fun k h => h.1)), (by first | exact Fo3 | exact Fo3.mono (fun k h => hnew k (by have := h.1; omega)) | exact Fo3.mono (fun k h => h.1))⟩, (by refine ⟨?_, ?_, ?_, ?_⟩ <;> (try simp only [dSync, List.length_append, List.length_take, List.length_drop, List.length_nil, List.length_replicate]) <;> omega)⟩, HG⟩
 ·
  try replace g3_2 := V.dec g3_2
  try simp only [V.mk0, V.mk1, V.mk2, V.mk3] at g3_2
  refine V.run T_ok 5 rfl ?_
  refine V.yes rfl rfl rfl ?_
  refine V.loadO T_ok Fk rfl rfl rfl rfl rfl ?_
  refine V.run T_ok 4 rfl ?_
  refine V.nil ?_
  refine V.tN ?_
  refine V.condT rfl (fun h3 => ?_) (fun h3 => ?_)
  ·
   try replace h3 := V.dec h3
   try simp only [V.mk0, V.mk1, V.mk2, V.mk3] at h3
   refine V.seq ?_
   refine V.region ?_
   refine V.run T_ok 1 rfl ?_
   refine V.nil ?_
   refine V.tN ?_
   refine V.ret ?_
   refine V.bR ?_
   refine V.tR ?_
   refine V.done rfl ?_
   rw [show dCut d n = d by unfold dCut; rw [if_pos (by omega)], show eCut d n = 61 by unfold eCut; rw [if_pos (by omega)]]
   exact ⟨(by first | rfl | simp only [List.length_set]), ⟨⟨hnk, fun j hj => hnew j (by omega), _, _, _, _, _, _, _, _, Fk, (by first | exact Fo0 | exact Fo0.mono (fun k h => hnew k (by have := h.1; omega)) | exact Fo0.mono (fun k h => h.1)), (by first | exact Fo1 | exact Fo1.mono (fun k h => hnew k (by have := h.1; omega)) | exact Fo1.mono (fun k h => h.1)), (by first | exact Fo2 | exact Fo2.mono (fun k h => hnew k (by have := h.1; omega)) | exact Fo2.mono (fun k h => h.1)), (by first | exact Fo3 | exact Fo3.mono (fun k h => hnew k (by have := h.1; omega)) | exact Fo3.mono (fun k h => h.1))⟩, (by refine ⟨?_, ?_, ?_, ?_⟩ <;> (try simp only [dSync, List.length_append, List.length_take, List.length_drop, List.length_nil, List.length_replicate]) <;> omega)⟩, HG⟩
  ·
   try replace h3 := V.dec h3
   try simp only [V.mk0, V.mk1, V.mk2, V.mk3] at h3
   refine V.skip ?_
   refine V.bN ?_
   refine V.tN ?_
   refine V.seq ?_
   refine V.region ?_
   refine V.run T_ok 5 rfl ?_
   refine V.loadO T_ok Fk rfl rfl rfl rfl rfl ?_
   refine V.run T_ok 1 rfl ?_
   refine V.cutL T_ok Fo2 rfl rfl sz5 rfl rfl rfl rfl (by first | omega | (simp only [List.length_take, List.length_drop, List.length_append, List.length_cons, List.length_nil, List.length_replicate, List.length_set, V.length_data, V.S_size]; omega)) (by first | omega | (simp only [List.length_take, List.length_drop, List.length_append, List.length_cons, List.length_nil, List.length_replicate, List.length_set, V.length_data, V.S_size]; omega)) (fun a1 F3 => ?_)
   refine V.call (clone_spec F3 (by first | omega | (simp only [List.length_take, List.length_drop, List.length_append, List.length_cons, List.length_nil, List.length_replicate, List.length_set, V.length_data, V.S_size]; omega))) rfl rfl rfl ?_
   rintro _ w7 ⟨a4, c5, rfl, F6, G8⟩
   have z9 := V.Fr.size G8
   try replace Fk := Fk.gr G8
   try replace Fo0 := Fo0.gr G8
   try replace Fo1 := Fo1.gr G8
   try replace Fo2 := Fo2.gr G8
   try replace Fo3 := Fo3.gr G8
   try replace FD := FD.gr G8
   try replace F3 := F3.gr G8
   replace HG := HG.grow G8
   clear G8
   refine V.run T_ok 3 rfl ?_
   refine V.storeO Fk rfl rfl rfl rfl sz22 rfl rfl rfl rfl ?_
   rintro w10 G11 z13 Fs12
   clear Fk
   have z14 := V.Fr.size G11
   try replace Fo0 := Fo0.ma G11
   try replace Fo1 := Fo1.ma G11
   try replace Fo2 := Fo2.ma G11
   try replace Fo3 := Fo3.ma G11
   first | replace FD := FD.mv1 G11 (by first | exact ⟨by omega, by assumption⟩ | exact ⟨by omega, fun h => absurd h.1 (by assumption)⟩ | exact ⟨by omega, fun h => absurd h.1.1 (by assumption)⟩ | exact ⟨by omega, fun h => by first | (have h2 := h.1; have h3 := h.2; omega) | (have h2 := h; dsimp only at h2; omega)⟩ | first | omega | exact fun h => h | exact ⟨by omega, fun h => h⟩ | (intro h; first | (have := hD _ h; omega)) | (refine ⟨by omega, ?_⟩; intro h; first | (have := hD _ h; omega))) | clear FD | skip
   try replace F3 := F3.ma G11
   try replace F6 := F6.ma G11
   replace HG := HG.n1 G11
   clear G11
   have Fk := Fs12; clear Fs12
   simp only [V.spliceL, V.cellsL] at Fk
   refine V.nil ?_
   refine V.tN ?_
   refine V.seq ?_
   refine V.region ?_
   refine V.run T_ok 1 rfl ?_
   refine V.nil ?_
   refine V.tN ?_
   refine V.ret ?_
   refine V.done rfl ?_
   rw [show dCut d n = { d with nf := d.nf.take n.toNat } by unfold dCut; rw [if_neg (by omega)], show eCut d n = 0 by unfold eCut; rw [if_neg (by omega)]]
   exact ⟨(by first | rfl | simp only [List.length_set]), ⟨⟨hnk, fun j hj => hnew j (by omega), _, _, _, _, _, _, _, _, Fk, (by first | exact Fo0 | exact Fo0.mono (fun k h => hnew k (by have := h.1; omega)) | exact Fo0.mono (fun k h => h.1)), (by first | exact Fo1 | exact Fo1.mono (fun k h => hnew k (by have := h.1; omega)) | exact Fo1.mono (fun k h => h.1)), (by first | exact F6.sl | exact F6.sl.mono (fun k h => hnew k (by have := h.1; omega)) | exact F6.sl.mono (fun k h => h.1)), (by first | exact Fo3 | exact Fo3.mono (fun k h => hnew k (by have := h.1; omega)) | exact Fo3.mono (fun k h => h.1))⟩, (by refine ⟨?_, ?_, ?_, ?_⟩ <;> (try simp only [dSync, List.length_append, List.length_take, List.length_drop, List.length_nil, List.length_replicate]) <;> omega)⟩, HG⟩

set_option maxHeartbeats 900000 in
set_option maxRecDepth 10000 in
theorem dsync_spec {w : World} {k : Nat} {D : Nat → Prop} {d : DiskV} (FD : Dsk w k D d)   :
    Meets Try.prog 44 [.pointer (some ⟨k, 0, none⟩)] w fun r w' => r = .int .i64 0 ∧ Dsk w' k D (dSync d) ∧ Fr [k] w w' := by
 obtain ⟨hnk, hnew, ao0, co0, ao1, co1, ao2, co2, ao3, co3, Fk, Fo0, Fo1, Fo2, Fo3⟩ := FD.ex
 have hkl := Fk.lt
 have hl0 := Fo0.len63
 replace Fo0 := Fo0.flb
 have hl1 := Fo1.len63
 replace Fo1 := Fo1.flb
 have hl2 := Fo2.len63
 replace Fo2 := Fo2.flb
 have hl3 := Fo3.len63
 replace Fo3 := Fo3.flb
 obtain ⟨hs0, hs1, hs2, hs3⟩ := FD.small
 have HG := V.Fr.refl [k] w
 refine V.enter (n := 13) Try.func44 rfl rfl (by decide) rfl ?_
 refine V.seq ?_
 refine V.region ?_
 refine V.run T_ok 1 rfl ?_
 refine V.nil ?_
 refine V.tN ?_
 refine V.seq ?_
 refine V.seq ?_
 refine V.region ?_
 refine V.run T_ok 2 rfl ?_
 refine V.nil ?_
 refine V.tN ?_
 refine V.condN rfl rfl ?_
 refine V.skip ?_
 refine V.tN ?_
 refine V.seq ?_
 refine V.region ?_
 refine V.run T_ok 4 rfl ?_
 refine V.loadO T_ok Fk rfl rfl rfl rfl rfl ?_
 refine V.call (copied_spec Fo2 Fo3 (by omega) (by omega)) rfl rfl rfl ?_
 rintro _ w7 ⟨a1, c2, a3, c4, rfl, F5, F6, G8⟩
 have z9 := V.Fr.size G8
 try replace Fk := Fk.gr G8
 try replace Fo0 := Fo0.gr G8
 try replace Fo1 := Fo1.gr G8
 try replace Fo2 := Fo2.gr G8
 try replace Fo3 := Fo3.gr G8
 try replace FD := FD.gr G8
 replace HG := HG.grow G8
 clear G8
 refine V.run T_ok 2 rfl ?_
 refine V.storeO Fk rfl rfl rfl rfl sz70 rfl rfl rfl rfl ?_
 rintro w10 G11 z13 Fs12
 clear Fk
 have z14 := V.Fr.size G11
 try replace Fo0 := Fo0.ma G11
 try replace Fo1 := Fo1.ma G11
 try replace Fo2 := Fo2.ma G11
 try replace Fo3 := Fo3.ma G11
 first | replace FD := FD.mv1 G11 (by first | exact ⟨by omega, by assumption⟩ | exact ⟨by omega, fun h => absurd h.1 (by assumption)⟩ | exact ⟨by omega, fun h => absurd h.1.1 (by assumption)⟩ | exact ⟨by omega, fun h => by first | (have h2 := h.1; have h3 := h.2; omega) | (have h2 := h; dsimp only at h2; omega)⟩ | first | omega | exact fun h => h | exact ⟨by omega, fun h => h⟩ | (intro h; first | (have := hD _ h; omega)) | (refine ⟨by omega, ?_⟩; intro h; first | (have := hD _ h; omega))) | clear FD | skip
 try replace F5 := F5.ma G11
 try replace F6 := F6.ma G11
 replace HG := HG.n1 G11
 clear G11
 have Fk := Fs12; clear Fs12
 simp only [V.spliceL, V.cellsL] at Fk
 refine V.nil ?_
 refine V.tN ?_
 refine V.seq ?_
 refine V.region ?_
 refine V.run T_ok 1 rfl ?_
 refine V.nil ?_
 refine V.tN ?_
 refine V.ret ?_
 refine V.done rfl ?_
 exact ⟨(by first | rfl | simp only [List.length_set]), ⟨⟨hnk, fun j hj => hnew j (by omega), _, _, _, _, _, _, _, _, Fk, (by first | exact F5 | exact F5.mono (fun k h => hnew k (by have := h.1; omega)) | exact F5.mono (fun k h => h.1)), (by first | exact F6 | exact F6.mono (fun k h => hnew k (by have := h.1; omega)) | exact F6.mono (fun k h => h.1)), (by first | exact Fo2 | exact Fo2.mono (fun k h => hnew k (by have := h.1; omega)) | exact Fo2.mono (fun k h => h.1)), (by first | exact Fo3 | exact Fo3.mono (fun k h => hnew k (by have := h.1; omega)) | exact Fo3.mono (fun k h => h.1))⟩, (by refine ⟨?_, ?_, ?_, ?_⟩ <;> (try simp only [dSync, List.length_append, List.length_take, List.length_drop, List.length_nil, List.length_replicate]) <;> omega)⟩, HG⟩



/-- what a crash leaves of the file -/
def dLeft (d : DiskV) (keep : Int) (torn : Bool) : List UInt8 :=
  let c := comm d.sf d.nf
  if keep < 1 ∧ (d.nf.length = c ∨ c < d.sf.length) then d.sf
  else if d.nf.length = c then d.nf
  else
    let k := min keep.toNat (d.nf.length - c)
    if torn = true ∧ 0 < k then (d.nf.take (c + k)).set (c + k - 1) ((d.nf.take (c + k)).getD (c + k - 1) 0 ^^^ 1) else d.nf.take (c + k)
theorem dLeft_len (d : DiskV) (keep : Int) (torn : Bool) (h1 : d.sf.length ≤ 16777216) (h2 : d.nf.length ≤ 16777216) : (dLeft d keep torn).length ≤ 16777216 := by
  have hc := (comm_le d.sf d.nf).2
  unfold dLeft
  dsimp only
  split
  · exact h1
  · split
    · exact h2
    · split
      · simp only [List.length_set, List.length_take]; omega
      · simp only [List.length_take]; omega
section
variable {d : DiskV} {keep : Int} {torn : Bool}
theorem dLeft_sf (h : keep < 1 ∧ (d.nf.length = comm d.sf d.nf ∨ comm d.sf d.nf < d.sf.length)) : dLeft d keep torn = d.sf := by
  unfold dLeft; dsimp only; rw [if_pos h]
theorem dLeft_nf (h : ¬ (keep < 1 ∧ (d.nf.length = comm d.sf d.nf ∨ comm d.sf d.nf < d.sf.length))) (h1 : d.nf.length = comm d.sf d.nf) : dLeft d keep torn = d.nf := by
  unfold dLeft; dsimp only; rw [if_neg h, if_pos h1]
theorem dLeft_cut (h : ¬ (keep < 1 ∧ (d.nf.length = comm d.sf d.nf ∨ comm d.sf d.nf < d.sf.length))) (h1 : ¬ d.nf.length = comm d.sf d.nf) (h2 : torn = false ∨ min keep.toNat (d.nf.length - comm d.sf d.nf) = 0) {N : Nat} (hN : N = comm d.sf d.nf + min keep.toNat (d.nf.length - comm d.sf d.nf)) : dLeft d keep torn = d.nf.take N := by
  subst hN
  unfold dLeft; dsimp only; rw [if_neg h, if_neg h1, if_neg]
  rintro ⟨h3, h4⟩
  rcases h2 with h2 | h2
  · rw [h2] at h3; cases h3
  · omega
theorem dLeft_torn (h : ¬ (keep < 1 ∧ (d.nf.length = comm d.sf d.nf ∨ comm d.sf d.nf < d.sf.length))) (h1 : ¬ d.nf.length = comm d.sf d.nf) (h2 : torn = true) (h3 : 0 < min keep.toNat (d.nf.length - comm d.sf d.nf)) {N j : Nat} {x : UInt8} (hN : N = comm d.sf d.nf + min keep.toNat (d.nf.length - comm d.sf d.nf)) {hl : j < (d.nf.take N).length} (hx : (d.nf.take N)[j] = x) (hj : j + 1 = N) : dLeft d keep torn = (d.nf.take N).set j (x ^^^ 1) := by
  subst hN
  unfold dLeft; dsimp only; rw [if_neg h, if_neg h1, if_pos ⟨h2, h3⟩]
  have e1 : comm d.sf d.nf + min keep.toNat (d.nf.length - comm d.sf d.nf) - 1 = j := by omega
  subst hx
  rw [e1, List.getD_eq_getElem?_getD, List.getElem?_eq_getElem hl]; rfl
end

set_option maxHeartbeats 900000 in
set_option maxRecDepth 10000 in
theorem dleft_spec {w : World} {k : Nat} {D : Nat → Prop} {d : DiskV} (FD : Dsk w k D d) {keep : Int} {torn : Bool}  :
    Meets Try.prog 61 [.pointer (some ⟨k, 0, none⟩), .int .i64 keep, .bool torn] w fun r w' => ∃ (ra32 : Option Addr) (rc32 : Nat), r = .slice ra32 (dLeft d keep torn).length rc32 ∧ Sl V.Cod.byte w' (V.In w.heap.size w'.heap.size) ra32 rc32 (dLeft d keep torn) ∧ Gr w w' := by
 obtain ⟨hnk, hnew, ao0, co0, ao1, co1, ao2, co2, ao3, co3, Fk, Fo0, Fo1, Fo2, Fo3⟩ := FD.ex
 have hkl := Fk.lt
 have hl0 := Fo0.len63
 replace Fo0 := Fo0.flb
 have hl1 := Fo1.len63
 replace Fo1 := Fo1.flb
 have hl2 := Fo2.len63
 replace Fo2 := Fo2.flb
 have hl3 := Fo3.len63
 replace Fo3 := Fo3.flb
 obtain ⟨hs0, hs1, hs2, hs3⟩ := FD.small
 have hcl := comm_le d.sf d.nf
 have HG := V.Fr.refl [] w
 refine V.enter (n := 89) Try.func61 rfl rfl (by decide) rfl ?_
 refine V.seq ?_
 refine V.region ?_
 refine V.run T_ok 1 rfl ?_
 refine V.nil ?_
 refine V.tN ?_
 refine V.seq ?_
 refine V.drawQ mixed (by kernel_rfl) ?_
 refine V.qrun T_ok 4 rfl ?_
 refine V.qloadO T_ok Fk rfl rfl rfl rfl rfl ?_
 refine V.qrun T_ok 4 rfl ?_
 refine V.qloadO T_ok Fk rfl rfl rfl rfl rfl ?_
 refine V.qcall V.clo (fun w1 g => (common_spec (Fo0.gr g) (Fo2.gr g))) rfl rfl rfl ?_
 refine V.qrun T_ok 1 rfl ?_
 refine V.qnil ?_
 rintro w1 G2
 have z3 := V.Fr.size G2
 try replace Fk := Fk.gr G2
 try replace Fo0 := Fo0.gr G2
 try replace Fo1 := Fo1.gr G2
 try replace Fo2 := Fo2.gr G2
 try replace Fo3 := Fo3.gr G2
 try replace FD := FD.gr G2
 replace HG := HG.grow G2
 clear G2
 refine V.tN ?_
 refine V.seq ?_
 refine V.region ?_
 refine V.run T_ok 4 rfl ?_
 refine V.loadO T_ok Fk rfl rfl rfl rfl rfl ?_
 refine V.run T_ok 2 rfl ?_
 refine V.subN rfl rfl rfl rfl rfl (by first | omega | (simp only [List.length_take, List.length_drop, List.length_append, List.length_cons, List.length_nil, List.length_replicate, List.length_set, V.length_data, V.S_size]; omega)) (by first | omega | (simp only [List.length_take, List.length_drop, List.length_append, List.length_cons, List.length_nil, List.length_replicate, List.length_set, V.length_data, V.S_size]; omega)) ?_
 refine V.run T_ok 1 rfl ?_
 refine V.nil ?_
 refine V.tN ?_
 refine V.seq ?_
 refine V.block ?_
 refine V.seq ?_
 refine V.region ?_
 refine V.run T_ok 3 rfl ?_
 refine V.split (j := 2) (t := 32) rfl rfl (fun g3_2 => ?_) (fun g3_2 => ?_)
 ·
  try replace g3_2 := V.dec g3_2
  try simp only [V.mk0, V.mk1, V.mk2, V.mk3] at g3_2
  refine V.run T_ok 3 rfl ?_
  refine V.split (j := 5) (t := 35) rfl rfl (fun g3_5 => ?_) (fun g3_5 => ?_)
  ·
   try replace g3_5 := V.dec g3_5
   try simp only [V.mk0, V.mk1, V.mk2, V.mk3] at g3_5
   refine V.run T_ok 11 rfl ?_
   refine V.nil ?_
   refine V.tN ?_
   refine V.condY rfl rfl ?_
   refine V.seq ?_
   refine V.region ?_
   refine V.run T_ok 4 rfl ?_
   refine V.loadO T_ok Fk rfl rfl rfl rfl rfl ?_
   refine V.call (clone_spec Fo0 (by first | omega | (simp only [List.length_take, List.length_drop, List.length_append, List.length_cons, List.length_nil, List.length_replicate, List.length_set, V.length_data, V.S_size]; omega))) rfl rfl rfl ?_
   rintro _ w7 ⟨a4, c5, rfl, F6, G8⟩
   have z9 := V.Fr.size G8
   try replace Fk := Fk.gr G8
   try replace Fo0 := Fo0.gr G8
   try replace Fo1 := Fo1.gr G8
   try replace Fo2 := Fo2.gr G8
   try replace Fo3 := Fo3.gr G8
   try replace FD := FD.gr G8
   replace HG := HG.grow G8
   clear G8
   refine V.run T_ok 1 rfl ?_
   refine V.nil ?_
   refine V.tN ?_
   refine V.ret ?_
   refine V.bR ?_
   refine V.tR ?_
   refine V.done rfl ?_
   rw [dLeft_sf (by omega)]
   exact ⟨a4, c5, (by first | rfl | simp only [List.length_set]), F6.sl.re, HG⟩
  ·
   try replace g3_5 := V.dec g3_5
   try simp only [V.mk0, V.mk1, V.mk2, V.mk3] at g3_5
   refine V.run T_ok 4 rfl ?_
   refine V.yes rfl rfl rfl ?_
   refine V.loadO T_ok Fk rfl rfl rfl rfl rfl ?_
   refine V.run T_ok 6 rfl ?_
   refine V.nil ?_
   refine V.tN ?_
   refine V.condT rfl (fun h3 => ?_) (fun h3 => ?_)
   ·
    try replace h3 := V.dec h3
    try simp only [V.mk0, V.mk1, V.mk2, V.mk3] at h3
    refine V.seq ?_
    refine V.region ?_
    refine V.run T_ok 4 rfl ?_
    refine V.loadO T_ok Fk rfl rfl rfl rfl rfl ?_
    refine V.call (clone_spec Fo0 (by first | omega | (simp only [List.length_take, List.length_drop, List.length_append, List.length_cons, List.length_nil, List.length_replicate, List.length_set, V.length_data, V.S_size]; omega))) rfl rfl rfl ?_
    rintro _ w13 ⟨a10, c11, rfl, F12, G14⟩
    have z15 := V.Fr.size G14
    try replace Fk := Fk.gr G14
    try replace Fo0 := Fo0.gr G14
    try replace Fo1 := Fo1.gr G14
    try replace Fo2 := Fo2.gr G14
    try replace Fo3 := Fo3.gr G14
    try replace FD := FD.gr G14
    replace HG := HG.grow G14
    clear G14
    refine V.run T_ok 1 rfl ?_
    refine V.nil ?_
    refine V.tN ?_
    refine V.ret ?_
    refine V.bR ?_
    refine V.tR ?_
    refine V.done rfl ?_
    rw [dLeft_sf (by omega)]
    exact ⟨a10, c11, (by first | rfl | simp only [List.length_set]), F12.sl.re, HG⟩
   ·
    try replace h3 := V.dec h3
    try simp only [V.mk0, V.mk1, V.mk2, V.mk3] at h3
    refine V.seq ?_
    refine V.region ?_
    refine V.run T_ok 3 rfl ?_
    refine V.nil ?_
    refine V.tN ?_
    refine V.condT rfl (fun h5 => ?_) (fun h5 => ?_)
    ·
     try replace h5 := V.dec h5
     try simp only [V.mk0, V.mk1, V.mk2, V.mk3] at h5
     refine V.seq ?_
     refine V.region ?_
     refine V.run T_ok 4 rfl ?_
     refine V.loadO T_ok Fk rfl rfl rfl rfl rfl ?_
     refine V.call (clone_spec Fo2 (by first | omega | (simp only [List.length_take, List.length_drop, List.length_append, List.length_cons, List.length_nil, List.length_replicate, List.length_set, V.length_data, V.S_size]; omega))) rfl rfl rfl ?_
     rintro _ w19 ⟨a16, c17, rfl, F18, G20⟩
     have z21 := V.Fr.size G20
     try replace Fk := Fk.gr G20
     try replace Fo0 := Fo0.gr G20
     try replace Fo1 := Fo1.gr G20
     try replace Fo2 := Fo2.gr G20
     try replace Fo3 := Fo3.gr G20
     try replace FD := FD.gr G20
     replace HG := HG.grow G20
     clear G20
     refine V.run T_ok 1 rfl ?_
     refine V.nil ?_
     refine V.tN ?_
     refine V.ret ?_
     refine V.bR ?_
     refine V.tR ?_
     refine V.done rfl ?_
     rw [dLeft_nf (by omega) (by omega)]
     exact ⟨a16, c17, (by first | rfl | simp only [List.length_set]), F18.sl.re, HG⟩
    ·
     try replace h5 := V.dec h5
     try simp only [V.mk0, V.mk1, V.mk2, V.mk3] at h5
     refine V.skip ?_
     refine V.bN ?_
     refine V.tN ?_
     refine V.seq ?_
     refine V.region ?_
     refine V.run T_ok 5 rfl ?_
     refine V.nil ?_
     refine V.tN ?_
     refine V.seq ?_
     refine V.region ?_
     refine V.run T_ok 4 rfl ?_
     refine V.loadO T_ok Fk rfl rfl rfl rfl rfl ?_
     refine V.run T_ok 2 rfl ?_
     refine V.addN rfl rfl rfl rfl rfl (by first | omega | (simp only [List.length_take, List.length_drop, List.length_append, List.length_cons, List.length_nil, List.length_replicate, List.length_set, V.length_data, V.S_size]; omega)) (by first | omega | (simp only [List.length_take, List.length_drop, List.length_append, List.length_cons, List.length_nil, List.length_replicate, List.length_set, V.length_data, V.S_size]; omega)) ?_
     refine V.cutL T_ok Fo2 rfl rfl sz5 rfl rfl rfl rfl (by first | omega | (simp only [List.length_take, List.length_drop, List.length_append, List.length_cons, List.length_nil, List.length_replicate, List.length_set, V.length_data, V.S_size]; omega)) (by first | omega | (simp only [List.length_take, List.length_drop, List.length_append, List.length_cons, List.length_nil, List.length_replicate, List.length_set, V.length_data, V.S_size]; omega)) (fun a22 F24 => ?_)
     refine V.call (clone_spec F24 (by first | omega | (simp only [List.length_take, List.length_drop, List.length_append, List.length_cons, List.length_nil, List.length_replicate, List.length_set, V.length_data, V.S_size]; omega))) rfl rfl rfl ?_
     rintro _ w28 ⟨a25, c26, rfl, F27, G29⟩
     have z30 := V.Fr.size G29
     try replace Fk := Fk.gr G29
     try replace Fo0 := Fo0.gr G29
     try replace Fo1 := Fo1.gr G29
     try replace Fo2 := Fo2.gr G29
     try replace Fo3 := Fo3.gr G29
     try replace FD := FD.gr G29
     try replace F24 := F24.gr G29
     replace HG := HG.grow G29
     clear G29
     refine V.run T_ok 1 rfl ?_
     refine V.nil ?_
     refine V.tN ?_
     refine V.seq ?_
     refine V.seq ?_
     refine V.region ?_
     refine V.run T_ok 2 rfl ?_
     refine V.andG T_ok 2 1 76 rfl rfl rfl rfl rfl rfl rfl rfl ?_
     refine V.nil ?_
     refine V.tN ?_
     refine V.condT rfl (fun h9 => ?_) (fun h9 => ?_)
     ·
      try replace h9 := V.dec h9
      try simp only [V.mk0, V.mk1, V.mk2, V.mk3] at h9
      have hT := h9
      refine V.region ?_
      refine V.run T_ok 3 rfl ?_
      refine V.subN rfl rfl rfl rfl rfl (by first | omega | (simp only [List.length_take, List.length_drop, List.length_append, List.length_cons, List.length_nil, List.length_replicate, List.length_set, V.length_data, V.S_size]; omega)) (by first | omega | (simp only [List.length_take, List.length_drop, List.length_append, List.length_cons, List.length_nil, List.length_replicate, List.length_set, V.length_data, V.S_size]; omega)) ?_
      obtain ⟨g36, hg36l, hg36u, F37⟩ := V.Row.own1 V.flat_byte F27 (by first | omega | (simp only [List.length_take, List.length_drop, List.length_append, List.length_cons, List.length_nil, List.length_replicate, List.length_set, V.length_data, V.S_size]; omega))
      clear F27
      refine V.elemO' T_ok F37 (by first | rfl | (first | omega | (simp only [List.length_take, List.length_drop, List.length_append, List.length_cons, List.length_nil, List.length_replicate, List.length_set, V.length_data, V.S_size]; omega))) rfl rfl sz5 rfl rfl rfl rfl (by first | omega | (simp only [List.length_take, List.length_drop, List.length_append, List.length_cons, List.length_nil, List.length_replicate, List.length_set, V.length_data, V.S_size]; omega)) (by first | omega | (simp only [List.length_take, List.length_drop, List.length_append, List.length_cons, List.length_nil, List.length_replicate, List.length_set, V.length_data, V.S_size]; omega)) ?_
      rintro hx32
      obtain ⟨cs35, hR33, hA34⟩ := V.Own.el F37 hx32
      obtain ⟨x31, hx31⟩ : ∃ z', (d.nf.take ((comm d.sf d.nf : Int) + (min (max keep 0) ((d.nf.length : Int) - (comm d.sf d.nf : Int)))).toNat)[(((d.nf.take ((comm d.sf d.nf : Int) + (min (max keep 0) ((d.nf.length : Int) - (comm d.sf d.nf : Int)))).toNat).length : Int) - 1).toNat] = z' := ⟨_, rfl⟩
      rw [hx31] at hR33
      obtain rfl := hR33
      try simp only [Int.toNat_natCast] at hx31 hx32
      refine V.loadA T_ok (o0 := (((d.nf.take ((comm d.sf d.nf : Int) + (min (max keep 0) ((d.nf.length : Int) - (comm d.sf d.nf : Int)))).toNat).length : Int) - 1).toNat * V.Cod.byte.sz) (off := 0) hA34 rfl rfl rfl rfl rfl ?_
      refine V.run T_ok 1 rfl ?_
      refine V.elemO' T_ok F37 (by first | rfl | (first | omega | (simp only [List.length_take, List.length_drop, List.length_append, List.length_cons, List.length_nil, List.length_replicate, List.length_set, V.length_data, V.S_size]; omega))) rfl rfl sz5 rfl rfl rfl rfl (by first | omega | (simp only [List.length_take, List.length_drop, List.length_append, List.length_cons, List.length_nil, List.length_replicate, List.length_set, V.length_data, V.S_size]; omega)) (by first | omega | (simp only [List.length_take, List.length_drop, List.length_append, List.length_cons, List.length_nil, List.length_replicate, List.length_set, V.length_data, V.S_size]; omega)) ?_
      rintro hx39
      obtain ⟨cs42, hR40, hA41⟩ := V.Own.el F37 hx39
      obtain ⟨x38, hx38⟩ : ∃ z', (d.nf.take ((comm d.sf d.nf : Int) + (min (max keep 0) ((d.nf.length : Int) - (comm d.sf d.nf : Int)))).toNat)[(((d.nf.take ((comm d.sf d.nf : Int) + (min (max keep 0) ((d.nf.length : Int) - (comm d.sf d.nf : Int)))).toNat).length : Int) - 1).toNat] = z' := ⟨_, rfl⟩
      rw [hx38] at hR40
      obtain rfl := hR40
      try simp only [Int.toNat_natCast] at hx38 hx39
      refine V.storeS (D' := V.None') (j := (((d.nf.take ((comm d.sf d.nf : Int) + (min (max keep 0) ((d.nf.length : Int) - (comm d.sf d.nf : Int)))).toNat).length : Int) - 1).toNat) (x' := (x31 ^^^ 1)) V.flat_byte F37 rfl rfl rfl (by first | omega | (simp only [List.length_take, List.length_drop, List.length_append, List.length_cons, List.length_nil, List.length_replicate, List.length_set, V.length_data, V.S_size]; omega)) rfl (V.cb1 (V.xor8 x31 1)) rfl sz5 rfl rfl ?_
      rintro w43 G44 z45 Fnew
      clear F37
      have z46 := V.Fr.size G44
      try replace Fk := Fk.ma G44
      try replace Fo0 := Fo0.ma G44
      try replace Fo1 := Fo1.ma G44
      try replace Fo2 := Fo2.ma G44
      try replace Fo3 := Fo3.ma G44
      first | replace FD := FD.mv1 G44 (by first | exact ⟨by omega, by assumption⟩ | exact ⟨by omega, fun h => absurd h.1 (by assumption)⟩ | exact ⟨by omega, fun h => absurd h.1.1 (by assumption)⟩ | exact ⟨by omega, fun h => by first | (have h2 := h.1; have h3 := h.2; omega) | (have h2 := h; dsimp only at h2; omega)⟩ | first | omega | exact fun h => h | exact ⟨by omega, fun h => h⟩ | (intro h; first | (have := hD _ h; omega)) | (refine ⟨by omega, ?_⟩; intro h; first | (have := hD _ h; omega))) | clear FD | skip
      try replace F24 := F24.ma G44
      replace HG := HG.n1 G44
      clear G44
      have F37 := Fnew; clear Fnew
      refine V.nil ?_
      refine V.tN ?_
      refine V.seq ?_
      refine V.region ?_
      refine V.run T_ok 2 rfl ?_
      refine V.nil ?_
      refine V.tN ?_
      refine V.ret ?_
      refine V.done rfl ?_
      subst_vars
      first
        | rw [dLeft_torn (N := ((comm d.sf d.nf : Int) + min (max keep 0) ((d.nf.length : Int) - comm d.sf d.nf)).toNat) (j := (((d.nf.take ((comm d.sf d.nf : Int) + min (max keep 0) ((d.nf.length : Int) - comm d.sf d.nf)).toNat).length : Int) - 1).toNat) (by omega) (by omega) (by first | exact hT.1 | assumption) (by omega) (by omega) rfl (by simp only [List.length_take]; omega)]
        | rw [dLeft_cut (N := ((comm d.sf d.nf : Int) + min (max keep 0) ((d.nf.length : Int) - comm d.sf d.nf)).toNat) (by omega) (by omega) (by first | omega | (cases torn with | false => exact .inl rfl | true => refine .inr ?_; simp at hT; omega)) (by omega)]
      exact ⟨a25, c26, (by first | rfl | simp only [List.length_set]), (by first | exact (V.Row.back F37 hg36l hg36u).sl | exact (V.Row.back F37 hg36l hg36u).sl.mono (fun k h => ⟨by have := h.1; omega, by have := h.2; omega⟩) | exact (V.Row.back F37 hg36l hg36u).sl.mono (fun k h => hnew k (by have := h.1; omega)) | exact (V.Row.back F37 hg36l hg36u).sl.mono (fun k h => ⟨hnew k (by have := h.1; omega), by have := h.2; omega⟩)), HG⟩
     ·
      try replace h9 := V.dec h9
      try simp only [V.mk0, V.mk1, V.mk2, V.mk3] at h9
      have hT := h9
      refine V.skip ?_
      refine V.tN ?_
      refine V.seq ?_
      refine V.region ?_
      refine V.run T_ok 2 rfl ?_
      refine V.nil ?_
      refine V.tN ?_
      refine V.ret ?_
      refine V.done rfl ?_
      subst_vars
      first
        | rw [dLeft_torn (N := ((comm d.sf d.nf : Int) + min (max keep 0) ((d.nf.length : Int) - comm d.sf d.nf)).toNat) (j := (((d.nf.take ((comm d.sf d.nf : Int) + min (max keep 0) ((d.nf.length : Int) - comm d.sf d.nf)).toNat).length : Int) - 1).toNat) (by omega) (by omega) (by first | exact hT.1 | assumption) (by omega) (by omega) rfl (by simp only [List.length_take]; omega)]
        | rw [dLeft_cut (N := ((comm d.sf d.nf : Int) + min (max keep 0) ((d.nf.length : Int) - comm d.sf d.nf)).toNat) (by omega) (by omega) (by first | omega | (cases torn with | false => exact .inl rfl | true => refine .inr ?_; simp at hT; omega)) (by omega)]
      exact ⟨a25, c26, (by first | rfl | simp only [List.length_set]), F27.sl.re, HG⟩
 ·
  try replace g3_2 := V.dec g3_2
  try simp only [V.mk0, V.mk1, V.mk2, V.mk3] at g3_2
  refine V.run T_ok 14 rfl ?_
  refine V.nil ?_
  refine V.tN ?_
  refine V.condN rfl rfl ?_
  refine V.seq ?_
  refine V.region ?_
  refine V.run T_ok 3 rfl ?_
  refine V.nil ?_
  refine V.tN ?_
  refine V.condT rfl (fun h5 => ?_) (fun h5 => ?_)
  ·
   try replace h5 := V.dec h5
   try simp only [V.mk0, V.mk1, V.mk2, V.mk3] at h5
   refine V.seq ?_
   refine V.region ?_
   refine V.run T_ok 4 rfl ?_
   refine V.loadO T_ok Fk rfl rfl rfl rfl rfl ?_
   refine V.call (clone_spec Fo2 (by first | omega | (simp only [List.length_take, List.length_drop, List.length_append, List.length_cons, List.length_nil, List.length_replicate, List.length_set, V.length_data, V.S_size]; omega))) rfl rfl rfl ?_
   rintro _ w50 ⟨a47, c48, rfl, F49, G51⟩
   have z52 := V.Fr.size G51
   try replace Fk := Fk.gr G51
   try replace Fo0 := Fo0.gr G51
   try replace Fo1 := Fo1.gr G51
   try replace Fo2 := Fo2.gr G51
   try replace Fo3 := Fo3.gr G51
   try replace FD := FD.gr G51
   replace HG := HG.grow G51
   clear G51
   refine V.run T_ok 1 rfl ?_
   refine V.nil ?_
   refine V.tN ?_
   refine V.ret ?_
   refine V.bR ?_
   refine V.tR ?_
   refine V.done rfl ?_
   rw [dLeft_nf (by omega) (by omega)]
   exact ⟨a47, c48, (by first | rfl | simp only [List.length_set]), F49.sl.re, HG⟩
  ·
   try replace h5 := V.dec h5
   try simp only [V.mk0, V.mk1, V.mk2, V.mk3] at h5
   refine V.skip ?_
   refine V.bN ?_
   refine V.tN ?_
   refine V.seq ?_
   refine V.region ?_
   refine V.run T_ok 5 rfl ?_
   refine V.nil ?_
   refine V.tN ?_
   refine V.seq ?_
   refine V.region ?_
   refine V.run T_ok 4 rfl ?_
   refine V.loadO T_ok Fk rfl rfl rfl rfl rfl ?_
   refine V.run T_ok 2 rfl ?_
   refine V.addN rfl rfl rfl rfl rfl (by first | omega | (simp only [List.length_take, List.length_drop, List.length_append, List.length_cons, List.length_nil, List.length_replicate, List.length_set, V.length_data, V.S_size]; omega)) (by first | omega | (simp only [List.length_take, List.length_drop, List.length_append, List.length_cons, List.length_nil, List.length_replicate, List.length_set, V.length_data, V.S_size]; omega)) ?_
   refine V.cutL T_ok Fo2 rfl rfl sz5 rfl rfl rfl rfl (by first | omega | (simp only [List.length_take, List.length_drop, List.length_append, List.length_cons, List.length_nil, List.length_replicate, List.length_set, V.length_data, V.S_size]; omega)) (by first | omega | (simp only [List.length_take, List.length_drop, List.length_append, List.length_cons, List.length_nil, List.length_replicate, List.length_set, V.length_data, V.S_size]; omega)) (fun a53 F55 => ?_)
   refine V.call (clone_spec F55 (by first | omega | (simp only [List.length_take, List.length_drop, List.length_append, List.length_cons, List.length_nil, List.length_replicate, List.length_set, V.length_data, V.S_size]; omega))) rfl rfl rfl ?_
   rintro _ w59 ⟨a56, c57, rfl, F58, G60⟩
   have z61 := V.Fr.size G60
   try replace Fk := Fk.gr G60
   try replace Fo0 := Fo0.gr G60
   try replace Fo1 := Fo1.gr G60
   try replace Fo2 := Fo2.gr G60
   try replace Fo3 := Fo3.gr G60
   try replace FD := FD.gr G60
   try replace F55 := F55.gr G60
   replace HG := HG.grow G60
   clear G60
   refine V.run T_ok 1 rfl ?_
   refine V.nil ?_
   refine V.tN ?_
   refine V.seq ?_
   refine V.seq ?_
   refine V.region ?_
   refine V.run T_ok 2 rfl ?_
   refine V.andG T_ok 2 1 76 rfl rfl rfl rfl rfl rfl rfl rfl ?_
   refine V.nil ?_
   refine V.tN ?_
   refine V.condT rfl (fun h9 => ?_) (fun h9 => ?_)
   ·
    try replace h9 := V.dec h9
    try simp only [V.mk0, V.mk1, V.mk2, V.mk3] at h9
    have hT := h9
    refine V.region ?_
    refine V.run T_ok 3 rfl ?_
    refine V.subN rfl rfl rfl rfl rfl (by first | omega | (simp only [List.length_take, List.length_drop, List.length_append, List.length_cons, List.length_nil, List.length_replicate, List.length_set, V.length_data, V.S_size]; omega)) (by first | omega | (simp only [List.length_take, List.length_drop, List.length_append, List.length_cons, List.length_nil, List.length_replicate, List.length_set, V.length_data, V.S_size]; omega)) ?_
    obtain ⟨g67, hg67l, hg67u, F68⟩ := V.Row.own1 V.flat_byte F58 (by first | omega | (simp only [List.length_take, List.length_drop, List.length_append, List.length_cons, List.length_nil, List.length_replicate, List.length_set, V.length_data, V.S_size]; omega))
    clear F58
    refine V.elemO' T_ok F68 (by first | rfl | (first | omega | (simp only [List.length_take, List.length_drop, List.length_append, List.length_cons, List.length_nil, List.length_replicate, List.length_set, V.length_data, V.S_size]; omega))) rfl rfl sz5 rfl rfl rfl rfl (by first | omega | (simp only [List.length_take, List.length_drop, List.length_append, List.length_cons, List.length_nil, List.length_replicate, List.length_set, V.length_data, V.S_size]; omega)) (by first | omega | (simp only [List.length_take, List.length_drop, List.length_append, List.length_cons, List.length_nil, List.length_replicate, List.length_set, V.length_data, V.S_size]; omega)) ?_
    rintro hx63
    obtain ⟨cs66, hR64, hA65⟩ := V.Own.el F68 hx63
    obtain ⟨x62, hx62⟩ : ∃ z', (d.nf.take ((comm d.sf d.nf : Int) + (min (max keep 0) ((d.nf.length : Int) - (comm d.sf d.nf : Int)))).toNat)[(((d.nf.take ((comm d.sf d.nf : Int) + (min (max keep 0) ((d.nf.length : Int) - (comm d.sf d.nf : Int)))).toNat).length : Int) - 1).toNat] = z' := ⟨_, rfl⟩
    rw [hx62] at hR64
    obtain rfl := hR64
    try simp only [Int.toNat_natCast] at hx62 hx63
    refine V.loadA T_ok (o0 := (((d.nf.take ((comm d.sf d.nf : Int) + (min (max keep 0) ((d.nf.length : Int) - (comm d.sf d.nf : Int)))).toNat).length : Int) - 1).toNat * V.Cod.byte.sz) (off := 0) hA65 rfl rfl rfl rfl rfl ?_
    refine V.run T_ok 1 rfl ?_
    refine V.elemO' T_ok F68 (by first | rfl | (first | omega | (simp only [List.length_take, List.length_drop, List.length_append, List.length_cons, List.length_nil, List.length_replicate, List.length_set, V.length_data, V.S_size]; omega))) rfl rfl sz5 rfl rfl rfl rfl (by first | omega | (simp only [List.length_take, List.length_drop, List.length_append, List.length_cons, List.length_nil, List.length_replicate, List.length_set, V.length_data, V.S_size]; omega)) (by first | omega | (simp only [List.length_take, List.length_drop, List.length_append, List.length_cons, List.length_nil, List.length_replicate, List.length_set, V.length_data, V.S_size]; omega)) ?_
    rintro hx70
    obtain ⟨cs73, hR71, hA72⟩ := V.Own.el F68 hx70
    obtain ⟨x69, hx69⟩ : ∃ z', (d.nf.take ((comm d.sf d.nf : Int) + (min (max keep 0) ((d.nf.length : Int) - (comm d.sf d.nf : Int)))).toNat)[(((d.nf.take ((comm d.sf d.nf : Int) + (min (max keep 0) ((d.nf.length : Int) - (comm d.sf d.nf : Int)))).toNat).length : Int) - 1).toNat] = z' := ⟨_, rfl⟩
    rw [hx69] at hR71
    obtain rfl := hR71
    try simp only [Int.toNat_natCast] at hx69 hx70
    refine V.storeS (D' := V.None') (j := (((d.nf.take ((comm d.sf d.nf : Int) + (min (max keep 0) ((d.nf.length : Int) - (comm d.sf d.nf : Int)))).toNat).length : Int) - 1).toNat) (x' := (x62 ^^^ 1)) V.flat_byte F68 rfl rfl rfl (by first | omega | (simp only [List.length_take, List.length_drop, List.length_append, List.length_cons, List.length_nil, List.length_replicate, List.length_set, V.length_data, V.S_size]; omega)) rfl (V.cb1 (V.xor8 x62 1)) rfl sz5 rfl rfl ?_
    rintro w74 G75 z76 Fnew
    clear F68
    have z77 := V.Fr.size G75
    try replace Fk := Fk.ma G75
    try replace Fo0 := Fo0.ma G75
    try replace Fo1 := Fo1.ma G75
    try replace Fo2 := Fo2.ma G75
    try replace Fo3 := Fo3.ma G75
    first | replace FD := FD.mv1 G75 (by first | exact ⟨by omega, by assumption⟩ | exact ⟨by omega, fun h => absurd h.1 (by assumption)⟩ | exact ⟨by omega, fun h => absurd h.1.1 (by assumption)⟩ | exact ⟨by omega, fun h => by first | (have h2 := h.1; have h3 := h.2; omega) | (have h2 := h; dsimp only at h2; omega)⟩ | first | omega | exact fun h => h | exact ⟨by omega, fun h => h⟩ | (intro h; first | (have := hD _ h; omega)) | (refine ⟨by omega, ?_⟩; intro h; first | (have := hD _ h; omega))) | clear FD | skip
    try replace F55 := F55.ma G75
    replace HG := HG.n1 G75
    clear G75
    have F68 := Fnew; clear Fnew
    refine V.nil ?_
    refine V.tN ?_
    refine V.seq ?_
    refine V.region ?_
    refine V.run T_ok 2 rfl ?_
    refine V.nil ?_
    refine V.tN ?_
    refine V.ret ?_
    refine V.done rfl ?_
    subst_vars
    first
      | rw [dLeft_torn (N := ((comm d.sf d.nf : Int) + min (max keep 0) ((d.nf.length : Int) - comm d.sf d.nf)).toNat) (j := (((d.nf.take ((comm d.sf d.nf : Int) + min (max keep 0) ((d.nf.length : Int) - comm d.sf d.nf)).toNat).length : Int) - 1).toNat) (by omega) (by omega) (by first | exact hT.1 | assumption) (by omega) (by omega) rfl (by simp only [List.length_take]; omega)]
      | rw [dLeft_cut (N := ((comm d.sf d.nf : Int) + min (max keep 0) ((d.nf.length : Int) - comm d.sf d.nf)).toNat) (by omega) (by omega) (by first | omega | (cases torn with | false => exact .inl rfl | true => refine .inr ?_; simp at hT; omega)) (by omega)]
    exact ⟨a56, c57, (by first | rfl | simp only [List.length_set]), (by first | exact (V.Row.back F68 hg67l hg67u).sl | exact (V.Row.back F68 hg67l hg67u).sl.mono (fun k h => ⟨by have := h.1; omega, by have := h.2; omega⟩) | exact (V.Row.back F68 hg67l hg67u).sl.mono (fun k h => hnew k (by have := h.1; omega)) | exact (V.Row.back F68 hg67l hg67u).sl.mono (fun k h => ⟨hnew k (by have := h.1; omega), by have := h.2; omega⟩)), HG⟩
   ·
    try replace h9 := V.dec h9
    try simp only [V.mk0, V.mk1, V.mk2, V.mk3] at h9
    have hT := h9
    refine V.skip ?_
    refine V.tN ?_
    refine V.seq ?_
    refine V.region ?_
    refine V.run T_ok 2 rfl ?_
    refine V.nil ?_
    refine V.tN ?_
    refine V.ret ?_
    refine V.done rfl ?_
    subst_vars
    first
      | rw [dLeft_torn (N := ((comm d.sf d.nf : Int) + min (max keep 0) ((d.nf.length : Int) - comm d.sf d.nf)).toNat) (j := (((d.nf.take ((comm d.sf d.nf : Int) + min (max keep 0) ((d.nf.length : Int) - comm d.sf d.nf)).toNat).length : Int) - 1).toNat) (by omega) (by omega) (by first | exact hT.1 | assumption) (by omega) (by omega) rfl (by simp only [List.length_take]; omega)]
      | rw [dLeft_cut (N := ((comm d.sf d.nf : Int) + min (max keep 0) ((d.nf.length : Int) - comm d.sf d.nf)).toNat) (by omega) (by omega) (by first | omega | (cases torn with | false => exact .inl rfl | true => refine .inr ?_; simp at hT; omega)) (by omega)]
    exact ⟨a56, c57, (by first | rfl | simp only [List.length_set]), F58.sl.re, HG⟩


def dCrash (d : DiskV) (keep : Int) (torn cell : Bool) : DiskV := ⟨dLeft d keep torn, bif cell then d.nc else d.sc, dLeft d keep torn, bif cell then d.nc else d.sc⟩

set_option maxHeartbeats 900000 in
set_option maxRecDepth 10000 in
theorem dcrash_spec {w : World} {k : Nat} {D : Nat → Prop} {d : DiskV} (FD : Dsk w k D d) {keep : Int} {torn : Bool} {cell : Bool}  :
    Meets Try.prog 29 [.pointer (some ⟨k, 0, none⟩), .int .i64 keep, .bool torn, .bool cell] w fun r w' => ∃ (rk33 : Nat), r = .pointer (some ⟨rk33, 0, none⟩) ∧ (w.heap.size ≤ rk33 ∧ rk33 < w'.heap.size) ∧ Dsk w' rk33 (fun j => w.heap.size ≤ j ∧ j ≠ rk33) (dCrash d keep torn cell) ∧ Gr w w' := by
 obtain ⟨hnk, hnew, ao0, co0, ao1, co1, ao2, co2, ao3, co3, Fk, Fo0, Fo1, Fo2, Fo3⟩ := FD.ex
 have hkl := Fk.lt
 have hl0 := Fo0.len63
 replace Fo0 := Fo0.flb
 have hl1 := Fo1.len63
 replace Fo1 := Fo1.flb
 have hl2 := Fo2.len63
 replace Fo2 := Fo2.flb
 have hl3 := Fo3.len63
 replace Fo3 := Fo3.flb
 obtain ⟨hs0, hs1, hs2, hs3⟩ := FD.small
 have hdl := dLeft_len d keep torn hs0 hs2
 have HG := V.Fr.refl [] w
 refine V.enter (n := 35) Try.func29 rfl rfl (by decide) rfl ?_
 refine V.seq ?_
 refine V.region ?_
 refine V.run T_ok 1 rfl ?_
 refine V.nil ?_
 refine V.tN ?_
 refine V.seq ?_
 refine V.seq ?_
 refine V.region ?_
 refine V.run T_ok 2 rfl ?_
 refine V.nil ?_
 refine V.tN ?_
 refine V.condN rfl rfl ?_
 refine V.skip ?_
 refine V.tN ?_
 refine V.seq ?_
 refine V.drawGT 11 (V.sel [(3, (fun v wz => ∃ (ra32 : Option Addr) (rc32 : Nat), v = .slice ra32 (dLeft d keep torn).length rc32 ∧ Sl V.Cod.byte wz (V.In w.heap.size wz.heap.size) ra32 rc32 (dLeft d keep torn))), (10, V.newC w.heap.size [.slice none 0 0, .slice none 0 0] 70)]) mixed (by kernel_rfl) (V.mono_cons (by rintro v wz wz' g ⟨ra32, rc32, rfl, rF32⟩; exact ⟨ra32, rc32, rfl, (by first | exact (rF32.gr g).mono (V.In.sub (Nat.le_refl _) g.size) | exact rF32.gr g | exact (rF32.gr g).mono (fun _ h => h) (Nat.le_refl _) g.size | exact (rF32.gr g).mono (fun k h => ⟨h.1, Nat.lt_of_lt_of_le h.2 g.size⟩))⟩) (V.mono_cons V.newC_mono V.mono_nil)) ?_
 refine V.grun T_ok 3 rfl (V.sel_none rfl) ?_
 refine V.gcall (fun w' h => (dleft_spec (keep := keep) (torn := torn) (FD.gr h.1)).mono (by rintro v w'' ⟨ra32, rc32, rfl, rF32, G⟩; exact ⟨⟨ra32, rc32, rfl, (by first | exact rF32.mono (V.In.mono_l h.1.size) | exact rF32 | exact rF32.mono (fun _ h => h) h.1.size (Nat.le_refl _))⟩, G⟩)) rfl rfl rfl rfl ?_
 rintro _ w4 - - ⟨a1, c2, rfl, -⟩
 refine V.grun T_ok 4 rfl (V.sel_none rfl) ?_
 refine V.gloadO T_ok (fun w' h => Fk.gr h.1) rfl rfl rfl rfl rfl rfl ?_
 refine V.gmkStruct T_ok zero70 rfl rfl rfl rfl rfl rfl ?_
 refine V.galloc (lo := w.heap.size) zero70 (by omega) rfl rfl rfl rfl ?_
 rintro k5
 refine V.gnil ?_
 rintro w7 G8 hH9
 have z10 := V.Fr.size G8
 try replace Fk := Fk.gr G8
 try replace Fo0 := Fo0.gr G8
 try replace Fo1 := Fo1.gr G8
 try replace Fo2 := Fo2.gr G8
 try replace Fo3 := Fo3.gr G8
 try replace FD := FD.gr G8
 replace HG := HG.grow G8
 clear G8
 have F3 : Sl V.Cod.byte w7 (V.In w.heap.size w7.heap.size) a1 c2 (dLeft d keep torn) := by
   obtain ⟨_, _, he, F0⟩ := (V.Hist.here (V.Hist.old (hH9 3)))
   cases he
   exact F0
 have Fk6 := V.newC_get (V.Hist.here (hH9 10))
 have hk11 := V.newC_lt (V.Hist.here (hH9 10))
 clear hH9
 replace F3 := F3.apart Fk6 rfl
 refine V.storeO Fk6 rfl rfl rfl rfl sz70 rfl rfl rfl rfl ?_
 rintro w12 G13 z15 Fs14
 clear Fk6
 have z16 := V.Fr.size G13
 try replace Fk := Fk.ma G13
 try replace Fo0 := Fo0.ma G13
 try replace Fo1 := Fo1.ma G13
 try replace Fo2 := Fo2.ma G13
 try replace Fo3 := Fo3.ma G13
 first | replace FD := FD.mv1 G13 (by first | exact ⟨by omega, by assumption⟩ | exact ⟨by omega, fun h => absurd h.1 (by assumption)⟩ | exact ⟨by omega, fun h => absurd h.1.1 (by assumption)⟩ | exact ⟨by omega, fun h => by first | (have h2 := h.1; have h3 := h.2; omega) | (have h2 := h; dsimp only at h2; omega)⟩ | first | omega | exact fun h => h | exact ⟨by omega, fun h => h⟩ | (intro h; first | (have := hD _ h; omega)) | (refine ⟨by omega, ?_⟩; intro h; first | (have := hD _ h; omega))) | clear FD | skip
 try replace F3 := F3.ma G13
 replace HG := HG.n1 G13
 clear G13
 have Fk6 := Fs14; clear Fs14
 simp only [V.spliceL, V.cellsL] at Fk6
 refine V.nil ?_
 refine V.tN ?_
 refine V.seq ?_
 refine V.seq ?_
 refine V.region ?_
 refine V.run T_ok 1 rfl ?_
 refine V.nil ?_
 refine V.tN ?_
 refine V.condT rfl (fun h4 => ?_) (fun h4 => ?_)
 ·
  try replace h4 := V.dec h4
  try simp only [V.mk0, V.mk1, V.mk2, V.mk3] at h4
  subst h4
  refine V.region ?_
  refine V.run T_ok 4 rfl ?_
  refine V.loadO T_ok Fk rfl rfl rfl rfl rfl ?_
  refine V.run T_ok 1 rfl ?_
  refine V.storeO Fk6 rfl rfl rfl rfl sz22 rfl rfl rfl rfl ?_
  rintro w17 G18 z20 Fs19
  clear Fk6
  have z21 := V.Fr.size G18
  try replace Fk := Fk.ma G18
  try replace Fo0 := Fo0.ma G18
  try replace Fo1 := Fo1.ma G18
  try replace Fo2 := Fo2.ma G18
  try replace Fo3 := Fo3.ma G18
  first | replace FD := FD.mv1 G18 (by first | exact ⟨by omega, by assumption⟩ | exact ⟨by omega, fun h => absurd h.1 (by assumption)⟩ | exact ⟨by omega, fun h => absurd h.1.1 (by assumption)⟩ | exact ⟨by omega, fun h => by first | (have h2 := h.1; have h3 := h.2; omega) | (have h2 := h; dsimp only at h2; omega)⟩ | first | omega | exact fun h => h | exact ⟨by omega, fun h => h⟩ | (intro h; first | (have := hD _ h; omega)) | (refine ⟨by omega, ?_⟩; intro h; first | (have := hD _ h; omega))) | clear FD | skip
  try replace F3 := F3.ma G18
  replace HG := HG.n1 G18
  clear G18
  have Fk6 := Fs19; clear Fs19
  simp only [V.spliceL, V.cellsL] at Fk6
  refine V.nil ?_
  refine V.tN ?_
  refine V.seq ?_
  refine V.drawGT 3 (V.sel [(1, (fun v wz => ∃ (ra24 : Option Addr) (rc24 : Nat) (ra25 : Option Addr) (rc25 : Nat), v = .agg #[.slice ra24 (dLeft d keep torn).length rc24, .slice ra25 d.nc.length rc25] ∧ Sl V.Cod.byte wz (V.In w17.heap.size wz.heap.size) ra24 rc24 (dLeft d keep torn) ∧ Sl V.Cod.byte wz (V.In w17.heap.size wz.heap.size) ra25 rc25 d.nc))]) mixed (by kernel_rfl) (V.mono_cons (by rintro v wz wz' g ⟨ra24, rc24, ra25, rc25, rfl, rF24, rF25⟩; exact ⟨ra24, rc24, ra25, rc25, rfl, (by first | exact (rF24.gr g).mono (V.In.sub (Nat.le_refl _) g.size) | exact rF24.gr g | exact (rF24.gr g).mono (fun _ h => h) (Nat.le_refl _) g.size | exact (rF24.gr g).mono (fun k h => ⟨h.1, Nat.lt_of_lt_of_le h.2 g.size⟩)), (by first | exact (rF25.gr g).mono (V.In.sub (Nat.le_refl _) g.size) | exact rF25.gr g | exact (rF25.gr g).mono (fun _ h => h) (Nat.le_refl _) g.size | exact (rF25.gr g).mono (fun k h => ⟨h.1, Nat.lt_of_lt_of_le h.2 g.size⟩))⟩) V.mono_nil) ?_
  refine V.gloadO T_ok (fun w' h => Fk6.gr h.1) rfl rfl rfl rfl rfl rfl ?_
  refine V.gcall (fun w' h => (copied_spec (F3.gr h.1) (Fo3.gr h.1) (by omega) (by omega)).mono (by rintro v w'' ⟨ra24, rc24, ra25, rc25, rfl, rF24, rF25, G⟩; exact ⟨⟨ra24, rc24, ra25, rc25, rfl, (by first | exact rF24.mono (V.In.mono_l h.1.size) | exact rF24 | exact rF24.mono (fun _ h => h) h.1.size (Nat.le_refl _)), (by first | exact rF25.mono (V.In.mono_l h.1.size) | exact rF25 | exact rF25.mono (fun _ h => h) h.1.size (Nat.le_refl _))⟩, G⟩)) rfl rfl rfl rfl ?_
  rintro _ w28 - - ⟨a22, c23, a24, c25, rfl, -, -⟩
  refine V.gloadO T_ok (fun w' h => Fk6.gr h.1) rfl rfl rfl rfl rfl rfl ?_
  refine V.gnil ?_
  rintro w29 G30 hH31
  have z32 := V.Fr.size G30
  try replace Fk := Fk.gr G30
  try replace Fo0 := Fo0.gr G30
  try replace Fo1 := Fo1.gr G30
  try replace Fo2 := Fo2.gr G30
  try replace Fo3 := Fo3.gr G30
  try replace FD := FD.gr G30
  try replace F3 := F3.gr G30
  try replace Fk6 := Fk6.gr G30
  replace HG := HG.grow G30
  clear G30
  have F26 : Sl V.Cod.byte w29 (V.In w17.heap.size w29.heap.size) a22 c23 (dLeft d keep torn) := by
    obtain ⟨_, _, _, _, he, F0, F1⟩ := (V.Hist.here (hH31 1))
    cases he
    exact F0
  have F27 : Sl V.Cod.byte w29 (V.In w17.heap.size w29.heap.size) a24 c25 d.nc := by
    obtain ⟨_, _, _, _, he, F0, F1⟩ := (V.Hist.here (hH31 1))
    cases he
    exact F1
  clear hH31
  refine V.call (copied_spec F3 Fo3 (by omega) (by omega)) rfl rfl rfl ?_
  rintro _ w39 ⟨a33, c34, a35, c36, rfl, F37, F38, G40⟩
  have z41 := V.Fr.size G40
  try replace Fk := Fk.gr G40
  try replace Fo0 := Fo0.gr G40
  try replace Fo1 := Fo1.gr G40
  try replace Fo2 := Fo2.gr G40
  try replace Fo3 := Fo3.gr G40
  try replace FD := FD.gr G40
  try replace F3 := F3.gr G40
  try replace Fk6 := Fk6.gr G40
  try replace F26 := F26.gr G40
  try replace F27 := F27.gr G40
  replace HG := HG.grow G40
  clear G40
  refine V.mkStruct T_ok zero72 rfl rfl rfl rfl rfl ?_
  refine V.box rfl rfl rfl rfl ?_
  rintro k42 w44 s46 s47 G45 Fk43
  have z48 := V.Fr.size G45
  try replace Fk := Fk.gr G45
  try replace Fo0 := Fo0.gr G45
  try replace Fo1 := Fo1.gr G45
  try replace Fo2 := Fo2.gr G45
  try replace Fo3 := Fo3.gr G45
  try replace FD := FD.gr G45
  try replace F3 := F3.gr G45
  try replace Fk6 := Fk6.gr G45
  try replace F26 := F26.gr G45
  try replace F27 := F27.gr G45
  try replace F37 := F37.gr G45
  try replace F38 := F38.gr G45
  replace HG := HG.grow G45
  clear G45
  try simp only [V.cellsL, V.spliceL] at Fk43
  refine V.run T_ok 1 rfl ?_
  refine V.nil ?_
  refine V.tN ?_
  refine V.ret ?_
  refine V.done rfl ?_
  exact ⟨k42, (by first | rfl | simp only [List.length_set]), ⟨by omega, by omega⟩, ⟨⟨fun h => h.2 rfl, fun j hj => ⟨by omega, by omega⟩, _, _, _, _, _, _, _, _, Fk43, (F26.mono (fun k h => ⟨by have := h.1; omega, by have := h.2; omega⟩)), (F27.mono (fun k h => ⟨by have := h.1; omega, by have := h.2; omega⟩)), (F37.mono (fun k h => ⟨by have := h.1; omega, by have := h.2; omega⟩)), (F38.mono (fun k h => ⟨by have := h.1; omega, by have := h.2; omega⟩))⟩, (by refine ⟨?_, ?_, ?_, ?_⟩ <;> simp only [dCrash, cond_true, cond_false] <;> omega)⟩, HG⟩
 ·
  try replace h4 := V.dec h4
  try simp only [V.mk0, V.mk1, V.mk2, V.mk3] at h4
  subst h4
  refine V.skip ?_
  refine V.tN ?_
  refine V.seq ?_
  refine V.drawGT 3 (V.sel [(1, (fun v wz => ∃ (ra24 : Option Addr) (rc24 : Nat) (ra25 : Option Addr) (rc25 : Nat), v = .agg #[.slice ra24 (dLeft d keep torn).length rc24, .slice ra25 d.sc.length rc25] ∧ Sl V.Cod.byte wz (V.In w12.heap.size wz.heap.size) ra24 rc24 (dLeft d keep torn) ∧ Sl V.Cod.byte wz (V.In w12.heap.size wz.heap.size) ra25 rc25 d.sc))]) mixed (by kernel_rfl) (V.mono_cons (by rintro v wz wz' g ⟨ra24, rc24, ra25, rc25, rfl, rF24, rF25⟩; exact ⟨ra24, rc24, ra25, rc25, rfl, (by first | exact (rF24.gr g).mono (V.In.sub (Nat.le_refl _) g.size) | exact rF24.gr g | exact (rF24.gr g).mono (fun _ h => h) (Nat.le_refl _) g.size | exact (rF24.gr g).mono (fun k h => ⟨h.1, Nat.lt_of_lt_of_le h.2 g.size⟩)), (by first | exact (rF25.gr g).mono (V.In.sub (Nat.le_refl _) g.size) | exact rF25.gr g | exact (rF25.gr g).mono (fun _ h => h) (Nat.le_refl _) g.size | exact (rF25.gr g).mono (fun k h => ⟨h.1, Nat.lt_of_lt_of_le h.2 g.size⟩))⟩) V.mono_nil) ?_
  refine V.gloadO T_ok (fun w' h => Fk6.gr h.1) rfl rfl rfl rfl rfl rfl ?_
  refine V.gcall (fun w' h => (copied_spec (F3.gr h.1) (Fo1.gr h.1) (by omega) (by omega)).mono (by rintro v w'' ⟨ra24, rc24, ra25, rc25, rfl, rF24, rF25, G⟩; exact ⟨⟨ra24, rc24, ra25, rc25, rfl, (by first | exact rF24.mono (V.In.mono_l h.1.size) | exact rF24 | exact rF24.mono (fun _ h => h) h.1.size (Nat.le_refl _)), (by first | exact rF25.mono (V.In.mono_l h.1.size) | exact rF25 | exact rF25.mono (fun _ h => h) h.1.size (Nat.le_refl _))⟩, G⟩)) rfl rfl rfl rfl ?_
  rintro _ w55 - - ⟨a49, c50, a51, c52, rfl, -, -⟩
  refine V.gloadO T_ok (fun w' h => Fk6.gr h.1) rfl rfl rfl rfl rfl rfl ?_
  refine V.gnil ?_
  rintro w56 G57 hH58
  have z59 := V.Fr.size G57
  try replace Fk := Fk.gr G57
  try replace Fo0 := Fo0.gr G57
  try replace Fo1 := Fo1.gr G57
  try replace Fo2 := Fo2.gr G57
  try replace Fo3 := Fo3.gr G57
  try replace FD := FD.gr G57
  try replace F3 := F3.gr G57
  try replace Fk6 := Fk6.gr G57
  replace HG := HG.grow G57
  clear G57
  have F53 : Sl V.Cod.byte w56 (V.In w12.heap.size w56.heap.size) a49 c50 (dLeft d keep torn) := by
    obtain ⟨_, _, _, _, he, F0, F1⟩ := (V.Hist.here (hH58 1))
    cases he
    exact F0
  have F54 : Sl V.Cod.byte w56 (V.In w12.heap.size w56.heap.size) a51 c52 d.sc := by
    obtain ⟨_, _, _, _, he, F0, F1⟩ := (V.Hist.here (hH58 1))
    cases he
    exact F1
  clear hH58
  refine V.call (copied_spec F3 Fo1 (by omega) (by omega)) rfl rfl rfl ?_
  rintro _ w66 ⟨a60, c61, a62, c63, rfl, F64, F65, G67⟩
  have z68 := V.Fr.size G67
  try replace Fk := Fk.gr G67
  try replace Fo0 := Fo0.gr G67
  try replace Fo1 := Fo1.gr G67
  try replace Fo2 := Fo2.gr G67
  try replace Fo3 := Fo3.gr G67
  try replace FD := FD.gr G67
  try replace F3 := F3.gr G67
  try replace Fk6 := Fk6.gr G67
  try replace F53 := F53.gr G67
  try replace F54 := F54.gr G67
  replace HG := HG.grow G67
  clear G67
  refine V.mkStruct T_ok zero72 rfl rfl rfl rfl rfl ?_
  refine V.box rfl rfl rfl rfl ?_
  rintro k69 w71 s73 s74 G72 Fk70
  have z75 := V.Fr.size G72
  try replace Fk := Fk.gr G72
  try replace Fo0 := Fo0.gr G72
  try replace Fo1 := Fo1.gr G72
  try replace Fo2 := Fo2.gr G72
  try replace Fo3 := Fo3.gr G72
  try replace FD := FD.gr G72
  try replace F3 := F3.gr G72
  try replace Fk6 := Fk6.gr G72
  try replace F53 := F53.gr G72
  try replace F54 := F54.gr G72
  try replace F64 := F64.gr G72
  try replace F65 := F65.gr G72
  replace HG := HG.grow G72
  clear G72
  try simp only [V.cellsL, V.spliceL] at Fk70
  refine V.run T_ok 1 rfl ?_
  refine V.nil ?_
  refine V.tN ?_
  refine V.ret ?_
  refine V.done rfl ?_
  exact ⟨k69, (by first | rfl | simp only [List.length_set]), ⟨by omega, by omega⟩, ⟨⟨fun h => h.2 rfl, fun j hj => ⟨by omega, by omega⟩, _, _, _, _, _, _, _, _, Fk70, (F53.mono (fun k h => ⟨by have := h.1; omega, by have := h.2; omega⟩)), (F54.mono (fun k h => ⟨by have := h.1; omega, by have := h.2; omega⟩)), (F64.mono (fun k h => ⟨by have := h.1; omega, by have := h.2; omega⟩)), (F65.mono (fun k h => ⟨by have := h.1; omega, by have := h.2; omega⟩))⟩, (by refine ⟨?_, ?_, ?_, ?_⟩ <;> simp only [dCrash, cond_true, cond_false] <;> omega)⟩, HG⟩

set_option maxHeartbeats 900000 in
set_option maxRecDepth 10000 in
theorem rappend_spec {w : World} {k : Nat} {D : Nat → Prop} {d : DiskV} (FD : RDsk w k D d) {D_b : Nat → Prop} {c_b : Nat} {a_b : Option Addr} {b : List UInt8} (F_b : Sl V.Cod.byte w D_b a_b c_b b) (hb : b.length ≤ 140737488355328) :
    Meets Try.prog 13 [.pointer (some ⟨k, 0, none⟩), .slice a_b b.length c_b] w fun r w' => r = .int .i64 (eAppend d b) ∧ RDsk w' k D (dAppend d b) ∧ Fr [k] w w' := by
 replace F_b := F_b.flb
 obtain ⟨hnk, hnew, ao0, co0, ao1, co1, ao2, co2, ao3, co3, Fk, Fo0, Fo1, Fo2, Fo3⟩ := FD.ex
 have hkl := Fk.lt
 have hl0 := Fo0.len63
 replace Fo0 := Fo0.flb
 have hl1 := Fo1.len63
 replace Fo1 := Fo1.flb
 have hl2 := Fo2.len63
 replace Fo2 := Fo2.flb
 have hl3 := Fo3.len63
 replace Fo3 := Fo3.flb
 obtain ⟨hs0, hs1, hs2, hs3⟩ := FD.small
 have HG := V.Fr.refl [k] w
 refine V.enter (n := 25) Try.func13 rfl rfl (by decide) rfl ?_
 refine V.seq ?_
 refine V.region ?_
 refine V.run T_ok 1 rfl ?_
 refine V.nil ?_
 refine V.tN ?_
 refine V.seq ?_
 refine V.seq ?_
 refine V.region ?_
 refine V.run T_ok 3 rfl ?_
 refine V.loadO T_ok Fk rfl rfl rfl rfl rfl ?_
 refine V.run T_ok 3 rfl ?_
 refine V.addN rfl rfl rfl rfl rfl (by first | omega | (simp only [List.length_take, List.length_drop, List.length_append, List.length_cons, List.length_nil, List.length_replicate, List.length_set, V.length_data, V.S_size]; omega)) (by first | omega | (simp only [List.length_take, List.length_drop, List.length_append, List.length_cons, List.length_nil, List.length_replicate, List.length_set, V.length_data, V.S_size]; omega)) ?_
 refine V.run T_ok 1 rfl ?_
 refine V.nil ?_
 refine V.tN ?_
 refine V.condT rfl (fun h1 => ?_) (fun h1 => ?_)
 ·
  try replace h1 := V.dec h1
  try simp only [V.mk0, V.mk1, V.mk2, V.mk3] at h1
  refine V.seq ?_
  refine V.region ?_
  refine V.run T_ok 1 rfl ?_
  refine V.nil ?_
  refine V.tN ?_
  refine V.ret ?_
  refine V.tR ?_
  refine V.done rfl ?_
  rw [show dAppend d b = d by unfold dAppend; rw [if_pos (by omega)], show eAppend d b = 61 by unfold eAppend; rw [if_pos (by omega)]]
  exact ⟨(by first | rfl | simp only [List.length_set]), ⟨⟨hnk, fun j hj => hnew j (by omega), _, _, _, _, _, _, _, _, Fk, (by first | exact Fo0 | exact Fo0.mono (fun k h => hnew k (by have := h.1; omega)) | exact Fo0.mono (fun k h => h.1)), (by first | exact Fo1 | exact Fo1.mono (fun k h => hnew k (by have := h.1; omega)) | exact Fo1.mono (fun k h => h.1)), (by first | exact Fo2 | exact Fo2.mono (fun k h => hnew k (by have := h.1; omega)) | exact Fo2.mono (fun k h => h.1)), (by first | exact Fo3 | exact Fo3.mono (fun k h => hnew k (by have := h.1; omega)) | exact Fo3.mono (fun k h => h.1))⟩, (by refine ⟨?_, ?_, ?_, ?_⟩ <;> (try simp only [dSync, List.length_append, List.length_take, List.length_drop, List.length_nil, List.length_replicate]) <;> omega)⟩, HG⟩
 ·
  try replace h1 := V.dec h1
  try simp only [V.mk0, V.mk1, V.mk2, V.mk3] at h1
  refine V.skip ?_
  refine V.tN ?_
  refine V.seq ?_
  refine V.region ?_
  refine V.run T_ok 1 rfl ?_
  refine V.mkSlice T_ok zero5 rfl rfl sz5 rfl rfl rfl rfl rfl rfl ?_
  rintro k1 w4 s6 s7 G5 Fk2
  have z8 := V.Fr.size G5
  try replace Fk := Fk.gr G5
  try replace Fo0 := Fo0.gr G5
  try replace Fo1 := Fo1.gr G5
  try replace Fo2 := Fo2.gr G5
  try replace Fo3 := Fo3.gr G5
  try replace FD := FD.gr G5
  try replace F_b := F_b.gr G5
  replace HG := HG.grow G5
  clear G5
  have F3 := V.rowOfB (xs := ([] : List UInt8)) Fk2 rfl rfl
  clear Fk2
  refine V.run T_ok 3 rfl ?_
  refine V.loadO T_ok Fk rfl rfl rfl rfl rfl ?_
  refine V.appendR (F3) (V.From.flat V.flat_byte (D' := V.None') (Fo1.from Try.underlying22)) elT22_22 rfl rfl rfl rfl rfl (by first | omega | (simp only [List.length_take, List.length_drop, List.length_append, List.length_cons, List.length_nil, List.length_replicate, List.length_set, V.length_data, V.S_size]; omega)) (by unfold maxLen; first | omega | (simp only [List.length_take, List.length_drop, List.length_append, List.length_cons, List.length_nil, List.length_replicate, List.length_set, V.length_data, V.S_size]; omega)) (by omega) (by omega) (fun _ h => h.elim) (fun _ h => h.elim) ?_
  rintro a9 c10 w12 G13 s14 F11
  clear F3
  have z15 := Go.RowKit.Below.size G13
  first | replace Fk := V.Cells.bl Fk G13 (by omega) | clear Fk | skip
  first | replace Fo0 := V.Sl.bl Fo0 G13 (by first | exact (fun _ h => by have := h.2; omega) | (intro k h; have := hD k h; omega)) | clear Fo0 | skip
  first | replace Fo1 := V.Sl.bl Fo1 G13 (by first | exact (fun _ h => by have := h.2; omega) | (intro k h; have := hD k h; omega)) | clear Fo1 | skip
  first | replace Fo2 := V.Sl.bl Fo2 G13 (by first | exact (fun _ h => by have := h.2; omega) | (intro k h; have := hD k h; omega)) | clear Fo2 | skip
  first | replace Fo3 := V.Sl.bl Fo3 G13 (by first | exact (fun _ h => by have := h.2; omega) | (intro k h; have := hD k h; omega)) | clear Fo3 | skip
  first | replace FD := FD.bl G13 (by first | exact ⟨by omega, fun j h => by have := h.2; omega⟩ | (first | omega | exact fun h => h | exact ⟨by omega, fun h => h⟩ | (intro h; first | (have := hD _ h; omega)) | (refine ⟨by omega, ?_⟩; intro h; first | (have := hD _ h; omega)))) | clear FD | skip
  first | replace F_b := V.Sl.bl F_b G13 (by first | exact (fun _ h => by have := h.2; omega) | (intro k h; have := hD k h; omega)) | clear F_b | skip
  replace HG := HG.bl (Go.RowKit.Below.mono G13 (by omega))
  clear G13
  rw [List.nil_append] at F11 ⊢
  refine V.run T_ok 1 rfl ?_
  refine V.appendR (F11) (V.From.flat V.flat_byte (D' := V.None') (F_b.from Try.underlying22)) elT22_22 rfl rfl rfl rfl rfl (by first | omega | (simp only [List.length_take, List.length_drop, List.length_append, List.length_cons, List.length_nil, List.length_replicate, List.length_set, V.length_data, V.S_size]; omega)) (by unfold maxLen; first | omega | (simp only [List.length_take, List.length_drop, List.length_append, List.length_cons, List.length_nil, List.length_replicate, List.length_set, V.length_data, V.S_size]; omega)) (by omega) (by omega) (fun _ h => h.elim) (fun _ h => h.elim) ?_
  rintro a16 c17 w19 G20 s21 F18
  clear F11
  have z22 := Go.RowKit.Below.size G20
  first | replace Fk := V.Cells.bl Fk G20 (by omega) | clear Fk | skip
  first | replace Fo0 := V.Sl.bl Fo0 G20 (by first | exact (fun _ h => by have := h.2; omega) | (intro k h; have := hD k h; omega)) | clear Fo0 | skip
  first | replace Fo1 := V.Sl.bl Fo1 G20 (by first | exact (fun _ h => by have := h.2; omega) | (intro k h; have := hD k h; omega)) | clear Fo1 | skip
  first | replace Fo2 := V.Sl.bl Fo2 G20 (by first | exact (fun _ h => by have := h.2; omega) | (intro k h; have := hD k h; omega)) | clear Fo2 | skip
  first | replace Fo3 := V.Sl.bl Fo3 G20 (by first | exact (fun _ h => by have := h.2; omega) | (intro k h; have := hD k h; omega)) | clear Fo3 | skip
  first | replace FD := FD.bl G20 (by first | exact ⟨by omega, fun j h => by have := h.2; omega⟩ | (first | omega | exact fun h => h | exact ⟨by omega, fun h => h⟩ | (intro h; first | (have := hD _ h; omega)) | (refine ⟨by omega, ?_⟩; intro h; first | (have := hD _ h; omega)))) | clear FD | skip
  first | replace F_b := V.Sl.bl F_b G20 (by first | exact (fun _ h => by have := h.2; omega) | (intro k h; have := hD k h; omega)) | clear F_b | skip
  replace HG := HG.bl (Go.RowKit.Below.mono G20 (by omega))
  clear G20
  refine V.run T_ok 2 rfl ?_
  refine V.storeO Fk rfl rfl rfl rfl sz22 rfl rfl rfl rfl ?_
  rintro w23 G24 z26 Fs25
  clear Fk
  have z27 := V.Fr.size G24
  try replace Fo0 := Fo0.ma G24
  try replace Fo1 := Fo1.ma G24
  try replace Fo2 := Fo2.ma G24
  try replace Fo3 := Fo3.ma G24
  first | replace FD := FD.mv1 G24 (by first | exact ⟨by omega, by assumption⟩ | exact ⟨by omega, fun h => absurd h.1 (by assumption)⟩ | exact ⟨by omega, fun h => absurd h.1.1 (by assumption)⟩ | exact ⟨by omega, fun h => by first | (have h2 := h.1; have h3 := h.2; omega) | (have h2 := h; dsimp only at h2; omega)⟩ | first | omega | exact fun h => h | exact ⟨by omega, fun h => h⟩ | (intro h; first | (have := hD _ h; omega)) | (refine ⟨by omega, ?_⟩; intro h; first | (have := hD _ h; omega))) | clear FD | skip
  try replace F_b := F_b.ma G24
  try replace F18 := F18.ma G24
  replace HG := HG.n1 G24
  clear G24
  have Fk := Fs25; clear Fs25
  simp only [V.spliceL, V.cellsL] at Fk
  refine V.nil ?_
  refine V.tN ?_
  refine V.seq ?_
  refine V.region ?_
  refine V.run T_ok 1 rfl ?_
  refine V.nil ?_
  refine V.tN ?_
  refine V.ret ?_
  refine V.done rfl ?_
  rw [show dAppend d b = { d with nf := d.nf ++ b } by unfold dAppend; rw [if_neg (by omega)], show eAppend d b = 0 by unfold eAppend; rw [if_neg (by omega)]]
  exact ⟨(by first | rfl | simp only [List.length_set]), ⟨⟨hnk, fun j hj => hnew j (by omega), _, _, _, _, _, _, _, _, Fk, (by first | exact Fo0 | exact Fo0.mono (fun k h => hnew k (by have := h.1; omega)) | exact Fo0.mono (fun k h => h.1)), (by first | exact F18.sl | exact F18.sl.mono (fun k h => hnew k (by have := h.1; omega)) | exact F18.sl.mono (fun k h => h.1)), (by first | exact Fo2 | exact Fo2.mono (fun k h => hnew k (by have := h.1; omega)) | exact Fo2.mono (fun k h => h.1)), (by first | exact Fo3 | exact Fo3.mono (fun k h => hnew k (by have := h.1; omega)) | exact Fo3.mono (fun k h => h.1))⟩, (by refine ⟨?_, ?_, ?_, ?_⟩ <;> (try simp only [dSync, List.length_append, List.length_take, List.length_drop, List.length_nil, List.length_replicate]) <;> omega)⟩, HG⟩

set_option maxHeartbeats 900000 in
set_option maxRecDepth 10000 in
theorem rset_spec {w : World} {k : Nat} {D : Nat → Prop} {d : DiskV} (FD : RDsk w k D d) {D_b : Nat → Prop} {c_b : Nat} {a_b : Option Addr} {b : List UInt8} (F_b : Sl V.Cod.byte w D_b a_b c_b b) (hb : b.length ≤ 140737488355328) :
    Meets Try.prog 14 [.pointer (some ⟨k, 0, none⟩), .slice a_b b.length c_b] w fun r w' => r = .int .i64 (eSet b) ∧ RDsk w' k D (dSet d b) ∧ Fr [k] w w' := by
 replace F_b := F_b.flb
 obtain ⟨hnk, hnew, ao0, co0, ao1, co1, ao2, co2, ao3, co3, Fk, Fo0, Fo1, Fo2, Fo3⟩ := FD.ex
 have hkl := Fk.lt
 have hl0 := Fo0.len63
 replace Fo0 := Fo0.flb
 have hl1 := Fo1.len63
 replace Fo1 := Fo1.flb
 have hl2 := Fo2.len63
 replace Fo2 := Fo2.flb
 have hl3 := Fo3.len63
 replace Fo3 := Fo3.flb
 obtain ⟨hs0, hs1, hs2, hs3⟩ := FD.small
 have HG := V.Fr.refl [k] w
 refine V.enter (n := 14) Try.func14 rfl rfl (by decide) rfl ?_
 refine V.seq ?_
 refine V.region ?_
 refine V.run T_ok 1 rfl ?_
 refine V.nil ?_
 refine V.tN ?_
 refine V.seq ?_
 refine V.seq ?_
 refine V.region ?_
 refine V.run T_ok 3 rfl ?_
 refine V.nil ?_
 refine V.tN ?_
 refine V.condT rfl (fun h1 => ?_) (fun h1 => ?_)
 ·
  try replace h1 := V.dec h1
  try simp only [V.mk0, V.mk1, V.mk2, V.mk3] at h1
  refine V.seq ?_
  refine V.region ?_
  refine V.run T_ok 1 rfl ?_
  refine V.nil ?_
  refine V.tN ?_
  refine V.ret ?_
  refine V.tR ?_
  refine V.done rfl ?_
  rw [show dSet d b = d by unfold dSet; rw [if_pos (by omega)], show eSet b = 61 by unfold eSet; rw [if_pos (by omega)]]
  exact ⟨(by first | rfl | simp only [List.length_set]), ⟨⟨hnk, fun j hj => hnew j (by omega), _, _, _, _, _, _, _, _, Fk, (by first | exact Fo0 | exact Fo0.mono (fun k h => hnew k (by have := h.1; omega)) | exact Fo0.mono (fun k h => h.1)), (by first | exact Fo1 | exact Fo1.mono (fun k h => hnew k (by have := h.1; omega)) | exact Fo1.mono (fun k h => h.1)), (by first | exact Fo2 | exact Fo2.mono (fun k h => hnew k (by have := h.1; omega)) | exact Fo2.mono (fun k h => h.1)), (by first | exact Fo3 | exact Fo3.mono (fun k h => hnew k (by have := h.1; omega)) | exact Fo3.mono (fun k h => h.1))⟩, (by refine ⟨?_, ?_, ?_, ?_⟩ <;> (try simp only [dSync, List.length_append, List.length_take, List.length_drop, List.length_nil, List.length_replicate]) <;> omega)⟩, HG⟩
 ·
  try replace h1 := V.dec h1
  try simp only [V.mk0, V.mk1, V.mk2, V.mk3] at h1
  refine V.skip ?_
  refine V.tN ?_
  refine V.seq ?_
  refine V.region ?_
  refine V.run T_ok 1 rfl ?_
  refine V.mkSlice T_ok zero5 rfl rfl sz5 rfl rfl rfl rfl rfl rfl ?_
  rintro k1 w4 s6 s7 G5 Fk2
  have z8 := V.Fr.size G5
  try replace Fk := Fk.gr G5
  try replace Fo0 := Fo0.gr G5
  try replace Fo1 := Fo1.gr G5
  try replace Fo2 := Fo2.gr G5
  try replace Fo3 := Fo3.gr G5
  try replace FD := FD.gr G5
  try replace F_b := F_b.gr G5
  replace HG := HG.grow G5
  clear G5
  have F3 := V.rowOfB (xs := ([] : List UInt8)) Fk2 rfl rfl
  clear Fk2
  refine V.run T_ok 1 rfl ?_
  refine V.appendR (F3) (V.From.flat V.flat_byte (D' := V.None') (F_b.from Try.underlying22)) elT22_22 rfl rfl rfl rfl rfl (by first | omega | (simp only [List.length_take, List.length_drop, List.length_append, List.length_cons, List.length_nil, List.length_replicate, List.length_set, V.length_data, V.S_size]; omega)) (by unfold maxLen; first | omega | (simp only [List.length_take, List.length_drop, List.length_append, List.length_cons, List.length_nil, List.length_replicate, List.length_set, V.length_data, V.S_size]; omega)) (by omega) (by omega) (fun _ h => h.elim) (fun _ h => h.elim) ?_
  rintro a9 c10 w12 G13 s14 F11
  clear F3
  have z15 := Go.RowKit.Below.size G13
  first | replace Fk := V.Cells.bl Fk G13 (by omega) | clear Fk | skip
  first | replace Fo0 := V.Sl.bl Fo0 G13 (by first | exact (fun _ h => by have := h.2; omega) | (intro k h; have := hD k h; omega)) | clear Fo0 | skip
  first | replace Fo1 := V.Sl.bl Fo1 G13 (by first | exact (fun _ h => by have := h.2; omega) | (intro k h; have := hD k h; omega)) | clear Fo1 | skip
  first | replace Fo2 := V.Sl.bl Fo2 G13 (by first | exact (fun _ h => by have := h.2; omega) | (intro k h; have := hD k h; omega)) | clear Fo2 | skip
  first | replace Fo3 := V.Sl.bl Fo3 G13 (by first | exact (fun _ h => by have := h.2; omega) | (intro k h; have := hD k h; omega)) | clear Fo3 | skip
  first | replace FD := FD.bl G13 (by first | exact ⟨by omega, fun j h => by have := h.2; omega⟩ | (first | omega | exact fun h => h | exact ⟨by omega, fun h => h⟩ | (intro h; first | (have := hD _ h; omega)) | (refine ⟨by omega, ?_⟩; intro h; first | (have := hD _ h; omega)))) | clear FD | skip
  first | replace F_b := V.Sl.bl F_b G13 (by first | exact (fun _ h => by have := h.2; omega) | (intro k h; have := hD k h; omega)) | clear F_b | skip
  replace HG := HG.bl (Go.RowKit.Below.mono G13 (by omega))
  clear G13
  rw [List.nil_append] at F11 ⊢
  refine V.run T_ok 2 rfl ?_
  refine V.storeO Fk rfl rfl rfl rfl sz22 rfl rfl rfl rfl ?_
  rintro w16 G17 z19 Fs18
  clear Fk
  have z20 := V.Fr.size G17
  try replace Fo0 := Fo0.ma G17
  try replace Fo1 := Fo1.ma G17
  try replace Fo2 := Fo2.ma G17
  try replace Fo3 := Fo3.ma G17
  first | replace FD := FD.mv1 G17 (by first | exact ⟨by omega, by assumption⟩ | exact ⟨by omega, fun h => absurd h.1 (by assumption)⟩ | exact ⟨by omega, fun h => absurd h.1.1 (by assumption)⟩ | exact ⟨by omega, fun h => by first | (have h2 := h.1; have h3 := h.2; omega) | (have h2 := h; dsimp only at h2; omega)⟩ | first | omega | exact fun h => h | exact ⟨by omega, fun h => h⟩ | (intro h; first | (have := hD _ h; omega)) | (refine ⟨by omega, ?_⟩; intro h; first | (have := hD _ h; omega))) | clear FD | skip
  try replace F_b := F_b.ma G17
  try replace F11 := F11.ma G17
  replace HG := HG.n1 G17
  clear G17
  have Fk := Fs18; clear Fs18
  simp only [V.spliceL, V.cellsL] at Fk
  refine V.nil ?_
  refine V.tN ?_
  refine V.seq ?_
  refine V.region ?_
  refine V.run T_ok 1 rfl ?_
  refine V.nil ?_
  refine V.tN ?_
  refine V.ret ?_
  refine V.done rfl ?_
  rw [show dSet d b = { d with nc := b } by unfold dSet; rw [if_neg (by omega)], show eSet b = 0 by unfold eSet; rw [if_neg (by omega)]]
  exact ⟨(by first | rfl | simp only [List.length_set]), ⟨⟨hnk, fun j hj => hnew j (by omega), _, _, _, _, _, _, _, _, Fk, (by first | exact Fo0 | exact Fo0.mono (fun k h => hnew k (by have := h.1; omega)) | exact Fo0.mono (fun k h => h.1)), (by first | exact Fo1 | exact Fo1.mono (fun k h => hnew k (by have := h.1; omega)) | exact Fo1.mono (fun k h => h.1)), (by first | exact Fo2 | exact Fo2.mono (fun k h => hnew k (by have := h.1; omega)) | exact Fo2.mono (fun k h => h.1)), (by first | exact F11.sl | exact F11.sl.mono (fun k h => hnew k (by have := h.1; omega)) | exact F11.sl.mono (fun k h => h.1))⟩, (by refine ⟨?_, ?_, ?_, ?_⟩ <;> (try simp only [dSync, List.length_append, List.length_take, List.length_drop, List.length_nil, List.length_replicate]) <;> omega)⟩, HG⟩

set_option maxHeartbeats 900000 in
set_option maxRecDepth 10000 in
theorem rcut_spec {w : World} {k : Nat} {D : Nat → Prop} {d : DiskV} (FD : RDsk w k D d) {n : Int}  :
    Meets Try.prog 51 [.pointer (some ⟨k, 0, none⟩), .int .i64 n] w fun r w' => r = .int .i64 (eCut d n) ∧ RDsk w' k D (dCut d n) ∧ Fr [k] w w' := by
 obtain ⟨hnk, hnew, ao0, co0, ao1, co1, ao2, co2, ao3, co3, Fk, Fo0, Fo1, Fo2, Fo3⟩ := FD.ex
 have hkl := Fk.lt
 have hl0 := Fo0.len63
 replace Fo0 := Fo0.flb
 have hl1 := Fo1.len63
 replace Fo1 := Fo1.flb
 have hl2 := Fo2.len63
 replace Fo2 := Fo2.flb
 have hl3 := Fo3.len63
 replace Fo3 := Fo3.flb
 obtain ⟨hs0, hs1, hs2, hs3⟩ := FD.small
 have HG := V.Fr.refl [k] w
 refine V.enter (n := 27) Try.func51 rfl rfl (by decide) rfl ?_
 refine V.seq ?_
 refine V.region ?_
 refine V.run T_ok 1 rfl ?_
 refine V.nil ?_
 refine V.tN ?_
 refine V.seq ?_
 refine V.seq ?_
 refine V.region ?_
 refine V.run T_ok 3 rfl ?_
 refine V.split (j := 2) (t := 7) rfl rfl (fun g1_2 => ?_) (fun g1_2 => ?_)
 ·
  try replace g1_2 := V.dec g1_2
  try simp only [V.mk0, V.mk1, V.mk2, V.mk3] at g1_2
  refine V.run T_ok 8 rfl ?_
  refine V.nil ?_
  refine V.tN ?_
  refine V.condY rfl rfl ?_
  refine V.seq ?_
  refine V.region ?_
  refine V.run T_ok 1 rfl ?_
  refine V.nil ?_
  refine V.tN ?_
  refine V.ret ?_
  refine V.tR ?_
  refine V.done rfl ?_
  rw [show dCut d n = d by unfold dCut; rw [if_pos (by omega)], show eCut d n = 61 by unfold eCut; rw [if_pos (by omega)]]
  exact ⟨(by first | rfl | simp only [List.length_set]), ⟨⟨hnk, fun j hj => hnew j (by omega), _, _, _, _, _, _, _, _, Fk, (by first | exact Fo0 | exact Fo0.mono (fun k h => hnew k (by have := h.1; omega)) | exact Fo0.mono (fun k h => h.1)), (by first | exact Fo1 | exact Fo1.mono (fun k h => hnew k (by have := h.1; omega)) | exact Fo1.mono (fun k h => h.1)), (by first | exact Fo2 | exact Fo2.mono (fun k h => hnew k (by have := h.1; omega)) | exact Fo2.mono (fun k h => h.1)), (by first | exact Fo3 | exact Fo3.mono (fun k h => hnew k (by have := h.1; omega)) | exact Fo3.mono (fun k h => h.1))⟩, (by refine ⟨?_, ?_, ?_, ?_⟩ <;> (try simp only [dSync, List.length_append, List.length_take, List.length_drop, List.length_nil, List.length_replicate]) <;> omega)⟩, HG⟩
 ·
  try replace g1_2 := V.dec g1_2
  try simp only [V.mk0, V.mk1, V.mk2, V.mk3] at g1_2
  refine V.run T_ok 4 rfl ?_
  refine V.yes rfl rfl rfl ?_
  refine V.loadO T_ok Fk rfl rfl rfl rfl rfl ?_
  refine V.run T_ok 3 rfl ?_
  refine V.nil ?_
  refine V.tN ?_
  refine V.condT rfl (fun h1 => ?_) (fun h1 => ?_)
  ·
   try replace h1 := V.dec h1
   try simp only [V.mk0, V.mk1, V.mk2, V.mk3] at h1
   refine V.seq ?_
   refine V.region ?_
   refine V.run T_ok 1 rfl ?_
   refine V.nil ?_
   refine V.tN ?_
   refine V.ret ?_
   refine V.tR ?_
   refine V.done rfl ?_
   rw [show dCut d n = d by unfold dCut; rw [if_pos (by omega)], show eCut d n = 61 by unfold eCut; rw [if_pos (by omega)]]
   exact ⟨(by first | rfl | simp only [List.length_set]), ⟨⟨hnk, fun j hj => hnew j (by omega), _, _, _, _, _, _, _, _, Fk, (by first | exact Fo0 | exact Fo0.mono (fun k h => hnew k (by have := h.1; omega)) | exact Fo0.mono (fun k h => h.1)), (by first | exact Fo1 | exact Fo1.mono (fun k h => hnew k (by have := h.1; omega)) | exact Fo1.mono (fun k h => h.1)), (by first | exact Fo2 | exact Fo2.mono (fun k h => hnew k (by have := h.1; omega)) | exact Fo2.mono (fun k h => h.1)), (by first | exact Fo3 | exact Fo3.mono (fun k h => hnew k (by have := h.1; omega)) | exact Fo3.mono (fun k h => h.1))⟩, (by refine ⟨?_, ?_, ?_, ?_⟩ <;> (try simp only [dSync, List.length_append, List.length_take, List.length_drop, List.length_nil, List.length_replicate]) <;> omega)⟩, HG⟩
  ·
   try replace h1 := V.dec h1
   try simp only [V.mk0, V.mk1, V.mk2, V.mk3] at h1
   refine V.skip ?_
   refine V.tN ?_
   refine V.seq ?_
   refine V.region ?_
   refine V.run T_ok 1 rfl ?_
   refine V.mkSlice T_ok zero5 rfl rfl sz5 rfl rfl rfl rfl rfl rfl ?_
   rintro k1 w4 s6 s7 G5 Fk2
   have z8 := V.Fr.size G5
   try replace Fk := Fk.gr G5
   try replace Fo0 := Fo0.gr G5
   try replace Fo1 := Fo1.gr G5
   try replace Fo2 := Fo2.gr G5
   try replace Fo3 := Fo3.gr G5
   try replace FD := FD.gr G5
   replace HG := HG.grow G5
   clear G5
   have F3 := V.rowOfB (xs := ([] : List UInt8)) Fk2 rfl rfl
   clear Fk2
   refine V.run T_ok 3 rfl ?_
   refine V.loadO T_ok Fk rfl rfl rfl rfl rfl ?_
   refine V.run T_ok 1 rfl ?_
   refine V.cutL T_ok Fo1 rfl rfl sz5 rfl rfl rfl rfl (by first | omega | (simp only [List.length_take, List.length_drop, List.length_append, List.length_cons, List.length_nil, List.length_replicate, List.length_set, V.length_data, V.S_size]; omega)) (by first | omega | (simp only [List.length_take, List.length_drop, List.length_append, List.length_cons, List.length_nil, List.length_replicate, List.length_set, V.length_data, V.S_size]; omega)) (fun a9 F11 => ?_)
   refine V.appendR (F3) (V.From.flat V.flat_byte (D' := V.None') (F11.from Try.underlying22)) elT22_22 rfl rfl rfl rfl rfl (by first | omega | (simp only [List.length_take, List.length_drop, List.length_append, List.length_cons, List.length_nil, List.length_replicate, List.length_set, V.length_data, V.S_size]; omega)) (by unfold maxLen; first | omega | (simp only [List.length_take, List.length_drop, List.length_append, List.length_cons, List.length_nil, List.length_replicate, List.length_set, V.length_data, V.S_size]; omega)) (by omega) (by omega) (fun _ h => h.elim) (fun _ h => h.elim) ?_
   rintro a12 c13 w15 G16 s17 F14
   clear F3
   have z18 := Go.RowKit.Below.size G16
   first | replace Fk := V.Cells.bl Fk G16 (by omega) | clear Fk | skip
   first | replace Fo0 := V.Sl.bl Fo0 G16 (by first | exact (fun _ h => by have := h.2; omega) | (intro k h; have := hD k h; omega)) | clear Fo0 | skip
   first | replace Fo1 := V.Sl.bl Fo1 G16 (by first | exact (fun _ h => by have := h.2; omega) | (intro k h; have := hD k h; omega)) | clear Fo1 | skip
   first | replace Fo2 := V.Sl.bl Fo2 G16 (by first | exact (fun _ h => by have := h.2; omega) | (intro k h; have := hD k h; omega)) | clear Fo2 | skip
   first | replace Fo3 := V.Sl.bl Fo3 G16 (by first | exact (fun _ h => by have := h.2; omega) | (intro k h; have := hD k h; omega)) | clear Fo3 | skip
   first | replace FD := FD.bl G16 (by first | exact ⟨by omega, fun j h => by have := h.2; omega⟩ | (first | omega | exact fun h => h | exact ⟨by omega, fun h => h⟩ | (intro h; first | (have := hD _ h; omega)) | (refine ⟨by omega, ?_⟩; intro h; first | (have := hD _ h; omega)))) | clear FD | skip
   first | replace F11 := V.Sl.bl F11 G16 (by first | exact (fun _ h => by have := h.2; omega) | (intro k h; have := hD k h; omega)) | clear F11 | skip
   replace HG := HG.bl (Go.RowKit.Below.mono G16 (by omega))
   clear G16
   rw [List.nil_append] at F14 ⊢
   refine V.run T_ok 2 rfl ?_
   refine V.storeO Fk rfl rfl rfl rfl sz22 rfl rfl rfl rfl ?_
   rintro w19 G20 z22 Fs21
   clear Fk
   have z23 := V.Fr.size G20
   try replace Fo0 := Fo0.ma G20
   try replace Fo1 := Fo1.ma G20
   try replace Fo2 := Fo2.ma G20
   try replace Fo3 := Fo3.ma G20
   first | replace FD := FD.mv1 G20 (by first | exact ⟨by omega, by assumption⟩ | exact ⟨by omega, fun h => absurd h.1 (by assumption)⟩ | exact ⟨by omega, fun h => absurd h.1.1 (by assumption)⟩ | exact ⟨by omega, fun h => by first | (have h2 := h.1; have h3 := h.2; omega) | (have h2 := h; dsimp only at h2; omega)⟩ | first | omega | exact fun h => h | exact ⟨by omega, fun h => h⟩ | (intro h; first | (have := hD _ h; omega)) | (refine ⟨by omega, ?_⟩; intro h; first | (have := hD _ h; omega))) | clear FD | skip
   try replace F11 := F11.ma G20
   try replace F14 := F14.ma G20
   replace HG := HG.n1 G20
   clear G20
   have Fk := Fs21; clear Fs21
   simp only [V.spliceL, V.cellsL] at Fk
   refine V.nil ?_
   refine V.tN ?_
   refine V.seq ?_
   refine V.region ?_
   refine V.run T_ok 1 rfl ?_
   refine V.nil ?_
   refine V.tN ?_
   refine V.ret ?_
   refine V.done rfl ?_
   rw [show dCut d n = { d with nf := d.nf.take n.toNat } by unfold dCut; rw [if_neg (by omega)], show eCut d n = 0 by unfold eCut; rw [if_neg (by omega)]]
   exact ⟨(by first | rfl | simp only [List.length_set]), ⟨⟨hnk, fun j hj => hnew j (by omega), _, _, _, _, _, _, _, _, Fk, (by first | exact Fo0 | exact Fo0.mono (fun k h => hnew k (by have := h.1; omega)) | exact Fo0.mono (fun k h => h.1)), (by first | exact F14.sl | exact F14.sl.mono (fun k h => hnew k (by have := h.1; omega)) | exact F14.sl.mono (fun k h => h.1)), (by first | exact Fo2 | exact Fo2.mono (fun k h => hnew k (by have := h.1; omega)) | exact Fo2.mono (fun k h => h.1)), (by first | exact Fo3 | exact Fo3.mono (fun k h => hnew k (by have := h.1; omega)) | exact Fo3.mono (fun k h => h.1))⟩, (by refine ⟨?_, ?_, ?_, ?_⟩ <;> (try simp only [dSync, List.length_append, List.length_take, List.length_drop, List.length_nil, List.length_replicate]) <;> omega)⟩, HG⟩

set_option maxHeartbeats 900000 in
set_option maxRecDepth 10000 in
theorem rsync_spec {w : World} {k : Nat} {D : Nat → Prop} {d : DiskV} (FD : RDsk w k D d)   :
    Meets Try.prog 27 [.pointer (some ⟨k, 0, none⟩)] w fun r w' => r = .tuple #[] ∧ RDsk w' k D (dSync d) ∧ Fr [k] w w' := by
 obtain ⟨hnk, hnew, ao0, co0, ao1, co1, ao2, co2, ao3, co3, Fk, Fo0, Fo1, Fo2, Fo3⟩ := FD.ex
 have hkl := Fk.lt
 have hl0 := Fo0.len63
 replace Fo0 := Fo0.flb
 have hl1 := Fo1.len63
 replace Fo1 := Fo1.flb
 have hl2 := Fo2.len63
 replace Fo2 := Fo2.flb
 have hl3 := Fo3.len63
 replace Fo3 := Fo3.flb
 obtain ⟨hs0, hs1, hs2, hs3⟩ := FD.small
 have HG := V.Fr.refl [k] w
 refine V.enter (n := 16) Try.func27 rfl rfl (by decide) rfl ?_
 refine V.seq ?_
 refine V.region ?_
 refine V.run T_ok 4 rfl ?_
 refine V.loadO T_ok Fk rfl rfl rfl rfl rfl ?_
 refine V.run T_ok 2 rfl ?_
 refine V.storeO Fk rfl rfl rfl rfl sz22 rfl rfl rfl rfl ?_
 rintro w1 G2 z4 Fs3
 clear Fk
 have z5 := V.Fr.size G2
 try replace Fo0 := Fo0.ma G2
 try replace Fo1 := Fo1.ma G2
 try replace Fo2 := Fo2.ma G2
 try replace Fo3 := Fo3.ma G2
 first | replace FD := FD.mv1 G2 (by first | exact ⟨by omega, by assumption⟩ | exact ⟨by omega, fun h => absurd h.1 (by assumption)⟩ | exact ⟨by omega, fun h => absurd h.1.1 (by assumption)⟩ | exact ⟨by omega, fun h => by first | (have h2 := h.1; have h3 := h.2; omega) | (have h2 := h; dsimp only at h2; omega)⟩ | first | omega | exact fun h => h | exact ⟨by omega, fun h => h⟩ | (intro h; first | (have := hD _ h; omega)) | (refine ⟨by omega, ?_⟩; intro h; first | (have := hD _ h; omega))) | clear FD | skip
 replace HG := HG.n1 G2
 clear G2
 have Fk := Fs3; clear Fs3
 simp only [V.spliceL, V.cellsL] at Fk
 refine V.nil ?_
 refine V.tN ?_
 refine V.region ?_
 refine V.run T_ok 4 rfl ?_
 refine V.loadO T_ok Fk rfl rfl rfl rfl rfl ?_
 refine V.run T_ok 2 rfl ?_
 refine V.storeO Fk rfl rfl rfl rfl sz22 rfl rfl rfl rfl ?_
 rintro w6 G7 z9 Fs8
 clear Fk
 have z10 := V.Fr.size G7
 try replace Fo0 := Fo0.ma G7
 try replace Fo1 := Fo1.ma G7
 try replace Fo2 := Fo2.ma G7
 try replace Fo3 := Fo3.ma G7
 first | replace FD := FD.mv1 G7 (by first | exact ⟨by omega, by assumption⟩ | exact ⟨by omega, fun h => absurd h.1 (by assumption)⟩ | exact ⟨by omega, fun h => absurd h.1.1 (by assumption)⟩ | exact ⟨by omega, fun h => by first | (have h2 := h.1; have h3 := h.2; omega) | (have h2 := h; dsimp only at h2; omega)⟩ | first | omega | exact fun h => h | exact ⟨by omega, fun h => h⟩ | (intro h; first | (have := hD _ h; omega)) | (refine ⟨by omega, ?_⟩; intro h; first | (have := hD _ h; omega))) | clear FD | skip
 replace HG := HG.n1 G7
 clear G7
 have Fk := Fs8; clear Fs8
 simp only [V.spliceL, V.cellsL] at Fk
 refine V.nil ?_
 refine V.doneN rfl ?_
 exact ⟨(by first | rfl | simp only [List.length_set]), ⟨⟨hnk, fun j hj => hnew j (by omega), _, _, _, _, _, _, _, _, Fk, (by first | exact Fo1 | exact Fo1.mono (fun k h => hnew k (by have := h.1; omega)) | exact Fo1.mono (fun k h => h.1)), (by first | exact Fo1 | exact Fo1.mono (fun k h => hnew k (by have := h.1; omega)) | exact Fo1.mono (fun k h => h.1)), (by first | exact Fo3 | exact Fo3.mono (fun k h => hnew k (by have := h.1; omega)) | exact Fo3.mono (fun k h => h.1)), (by first | exact Fo3 | exact Fo3.mono (fun k h => hnew k (by have := h.1; omega)) | exact Fo3.mono (fun k h => h.1))⟩, (by refine ⟨?_, ?_, ?_, ?_⟩ <;> (try simp only [dSync, List.length_append, List.length_take, List.length_drop, List.length_nil, List.length_replicate]) <;> omega)⟩, HG⟩


set_option maxHeartbeats 900000 in
set_option maxRecDepth 10000 in
theorem rfile_spec {w : World} {k : Nat} {D : Nat → Prop} {d : DiskV} (FD : RDsk w k D d) {keep : Int} {torn : Bool}  :
    Meets Try.prog 63 [.pointer (some ⟨k, 0, none⟩), .int .i64 keep, .bool torn] w fun r w' => ∃ (ra38 : Option Addr) (rc38 : Nat), r = .slice ra38 (dLeft d keep torn).length rc38 ∧ Sl V.Cod.byte w' ((fun j => D j ∧ j < w'.heap.size)) ra38 rc38 (dLeft d keep torn) ∧ Gr w w' := by
 obtain ⟨hnk, hnew, ao0, co0, ao1, co1, ao2, co2, ao3, co3, Fk, Fo0, Fo1, Fo2, Fo3⟩ := FD.ex
 have hkl := Fk.lt
 have hl0 := Fo0.len63
 replace Fo0 := Fo0.flb
 have hl1 := Fo1.len63
 replace Fo1 := Fo1.flb
 have hl2 := Fo2.len63
 replace Fo2 := Fo2.flb
 have hl3 := Fo3.len63
 replace Fo3 := Fo3.flb
 obtain ⟨hs0, hs1, hs2, hs3⟩ := FD.small
 have hcl := comm_le d.sf d.nf
 have HG := V.Fr.refl [] w
 refine V.enter (n := 91) Try.func63 rfl rfl (by decide) rfl ?_
 refine V.seq ?_
 refine V.region ?_
 refine V.run T_ok 1 rfl ?_
 refine V.nil ?_
 refine V.tN ?_
 refine V.seq ?_
 refine V.drawQ mixed (by kernel_rfl) ?_
 refine V.qrun T_ok 3 rfl ?_
 refine V.qloadO T_ok Fk rfl rfl rfl rfl rfl ?_
 refine V.qrun T_ok 3 rfl ?_
 refine V.qloadO T_ok Fk rfl rfl rfl rfl rfl ?_
 refine V.qcall V.clo (fun w1 g => (rcommon_spec (Fo0.gr g) (Fo1.gr g))) rfl rfl rfl ?_
 refine V.qrun T_ok 1 rfl ?_
 refine V.qnil ?_
 rintro w1 G2
 have z3 := V.Fr.size G2
 try replace Fk := Fk.gr G2
 try replace Fo0 := Fo0.gr G2
 try replace Fo1 := Fo1.gr G2
 try replace Fo2 := Fo2.gr G2
 try replace Fo3 := Fo3.gr G2
 try replace FD := FD.gr G2
 replace HG := HG.grow G2
 clear G2
 refine V.tN ?_
 refine V.seq ?_
 refine V.seq ?_
 refine V.region ?_
 refine V.run T_ok 4 rfl ?_
 refine V.loadO T_ok Fk rfl rfl rfl rfl rfl ?_
 refine V.run T_ok 2 rfl ?_
 refine V.nil ?_
 refine V.tN ?_
 refine V.condT rfl (fun h2 => ?_) (fun h2 => ?_)
 ·
  try replace h2 := V.dec h2
  try simp only [V.mk0, V.mk1, V.mk2, V.mk3] at h2
  refine V.seq ?_
  refine V.seq ?_
  refine V.region ?_
  refine V.run T_ok 2 rfl ?_
  refine V.nil ?_
  refine V.tN ?_
  refine V.condT rfl (fun h3 => ?_) (fun h3 => ?_)
  ·
   try replace h3 := V.dec h3
   try simp only [V.mk0, V.mk1, V.mk2, V.mk3] at h3
   refine V.seq ?_
   refine V.region ?_
   refine V.run T_ok 3 rfl ?_
   refine V.loadO T_ok Fk rfl rfl rfl rfl rfl ?_
   refine V.run T_ok 1 rfl ?_
   refine V.nil ?_
   refine V.tN ?_
   refine V.ret ?_
   refine V.tR ?_
   refine V.tR ?_
   refine V.done rfl ?_
   rw [dLeft_sf (by omega)]
   exact ⟨ao0, co0, (by first | rfl | simp only [List.length_set]), Fo0.re, HG⟩
  ·
   try replace h3 := V.dec h3
   try simp only [V.mk0, V.mk1, V.mk2, V.mk3] at h3
   refine V.skip ?_
   refine V.tN ?_
   refine V.seq ?_
   refine V.region ?_
   refine V.run T_ok 3 rfl ?_
   refine V.loadO T_ok Fk rfl rfl rfl rfl rfl ?_
   refine V.run T_ok 1 rfl ?_
   refine V.nil ?_
   refine V.tN ?_
   refine V.ret ?_
   refine V.tR ?_
   refine V.done rfl ?_
   rw [dLeft_nf (by omega) (by omega)]
   exact ⟨ao1, co1, (by first | rfl | simp only [List.length_set]), Fo1.re, HG⟩
 ·
  try replace h2 := V.dec h2
  try simp only [V.mk0, V.mk1, V.mk2, V.mk3] at h2
  refine V.skip ?_
  refine V.tN ?_
  refine V.seq ?_
  refine V.seq ?_
  refine V.region ?_
  refine V.run T_ok 3 rfl ?_
  refine V.split (j := 2) (t := 38) rfl rfl (fun g6_2 => ?_) (fun g6_2 => ?_)
  ·
   try replace g6_2 := V.dec g6_2
   try simp only [V.mk0, V.mk1, V.mk2, V.mk3] at g6_2
   refine V.run T_ok 3 rfl ?_
   refine V.yes rfl rfl rfl ?_
   refine V.loadO T_ok Fk rfl rfl rfl rfl rfl ?_
   refine V.run T_ok 4 rfl ?_
   refine V.nil ?_
   refine V.tN ?_
   refine V.condT rfl (fun h6 => ?_) (fun h6 => ?_)
   ·
    try replace h6 := V.dec h6
    try simp only [V.mk0, V.mk1, V.mk2, V.mk3] at h6
    refine V.seq ?_
    refine V.region ?_
    refine V.run T_ok 3 rfl ?_
    refine V.loadO T_ok Fk rfl rfl rfl rfl rfl ?_
    refine V.run T_ok 1 rfl ?_
    refine V.nil ?_
    refine V.tN ?_
    refine V.ret ?_
    refine V.tR ?_
    refine V.done rfl ?_
    rw [dLeft_sf (by omega)]
    exact ⟨ao0, co0, (by first | rfl | simp only [List.length_set]), Fo0.re, HG⟩
   ·
    try replace h6 := V.dec h6
    try simp only [V.mk0, V.mk1, V.mk2, V.mk3] at h6
    refine V.skip ?_
    refine V.tN ?_
    refine V.seq ?_
    refine V.region ?_
    refine V.run T_ok 5 rfl ?_
    refine V.loadO T_ok Fk rfl rfl rfl rfl rfl ?_
    refine V.run T_ok 2 rfl ?_
    refine V.subN rfl rfl rfl rfl rfl (by first | omega | (simp only [List.length_take, List.length_drop, List.length_append, List.length_cons, List.length_nil, List.length_replicate, List.length_set, V.length_data, V.S_size]; omega)) (by first | omega | (simp only [List.length_take, List.length_drop, List.length_append, List.length_cons, List.length_nil, List.length_replicate, List.length_set, V.length_data, V.S_size]; omega)) ?_
    refine V.run T_ok 2 rfl ?_
    refine V.nil ?_
    refine V.tN ?_
    refine V.seq ?_
    refine V.region ?_
    refine V.mkSlice T_ok zero5 rfl rfl sz5 rfl rfl rfl rfl rfl rfl ?_
    rintro k4 w7 s9 s10 G8 Fk5
    have z11 := V.Fr.size G8
    try replace Fk := Fk.gr G8
    try replace Fo0 := Fo0.gr G8
    try replace Fo1 := Fo1.gr G8
    try replace Fo2 := Fo2.gr G8
    try replace Fo3 := Fo3.gr G8
    try replace FD := FD.gr G8
    replace HG := HG.grow G8
    clear G8
    have F6 := V.rowOfB (xs := ([] : List UInt8)) Fk5 rfl rfl
    clear Fk5
    refine V.run T_ok 3 rfl ?_
    refine V.loadO T_ok Fk rfl rfl rfl rfl rfl ?_
    refine V.run T_ok 2 rfl ?_
    refine V.addN rfl rfl rfl rfl rfl (by first | omega | (simp only [List.length_take, List.length_drop, List.length_append, List.length_cons, List.length_nil, List.length_replicate, List.length_set, V.length_data, V.S_size]; omega)) (by first | omega | (simp only [List.length_take, List.length_drop, List.length_append, List.length_cons, List.length_nil, List.length_replicate, List.length_set, V.length_data, V.S_size]; omega)) ?_
    refine V.cutL T_ok Fo1 rfl rfl sz5 rfl rfl rfl rfl (by first | omega | (simp only [List.length_take, List.length_drop, List.length_append, List.length_cons, List.length_nil, List.length_replicate, List.length_set, V.length_data, V.S_size]; omega)) (by first | omega | (simp only [List.length_take, List.length_drop, List.length_append, List.length_cons, List.length_nil, List.length_replicate, List.length_set, V.length_data, V.S_size]; omega)) (fun a12 F14 => ?_)
    refine V.appendR (F6) (V.From.flat V.flat_byte (D' := V.None') (F14.from Try.underlying22)) elT22_22 rfl rfl rfl rfl rfl (by first | omega | (simp only [List.length_take, List.length_drop, List.length_append, List.length_cons, List.length_nil, List.length_replicate, List.length_set, V.length_data, V.S_size]; omega)) (by unfold maxLen; first | omega | (simp only [List.length_take, List.length_drop, List.length_append, List.length_cons, List.length_nil, List.length_replicate, List.length_set, V.length_data, V.S_size]; omega)) (by omega) (by omega) (fun _ h => h.elim) (fun _ h => h.elim) ?_
    rintro a15 c16 w18 G19 s20 F17
    clear F6
    have z21 := Go.RowKit.Below.size G19
    first | replace Fk := V.Cells.bl Fk G19 (by omega) | clear Fk | skip
    first | replace Fo0 := V.Sl.bl Fo0 G19 (by first | exact (fun _ h => by have := h.2; omega) | (intro k h; have := hD k h; omega)) | clear Fo0 | skip
    first | replace Fo1 := V.Sl.bl Fo1 G19 (by first | exact (fun _ h => by have := h.2; omega) | (intro k h; have := hD k h; omega)) | clear Fo1 | skip
    first | replace Fo2 := V.Sl.bl Fo2 G19 (by first | exact (fun _ h => by have := h.2; omega) | (intro k h; have := hD k h; omega)) | clear Fo2 | skip
    first | replace Fo3 := V.Sl.bl Fo3 G19 (by first | exact (fun _ h => by have := h.2; omega) | (intro k h; have := hD k h; omega)) | clear Fo3 | skip
    first | replace FD := FD.bl G19 (by first | exact ⟨by omega, fun j h => by have := h.2; omega⟩ | (first | omega | exact fun h => h | exact ⟨by omega, fun h => h⟩ | (intro h; first | (have := hD _ h; omega)) | (refine ⟨by omega, ?_⟩; intro h; first | (have := hD _ h; omega)))) | clear FD | skip
    first | replace F14 := V.Sl.bl F14 G19 (by first | exact (fun _ h => by have := h.2; omega) | (intro k h; have := hD k h; omega)) | clear F14 | skip
    replace HG := HG.bl (Go.RowKit.Below.mono G19 (by omega))
    clear G19
    rw [List.nil_append] at F17 ⊢
    refine V.run T_ok 1 rfl ?_
    refine V.nil ?_
    refine V.tN ?_
    refine V.seq ?_
    refine V.seq ?_
    refine V.region ?_
    refine V.run T_ok 2 rfl ?_
    refine V.andG T_ok 2 1 72 rfl rfl rfl rfl rfl rfl rfl rfl ?_
    refine V.nil ?_
    refine V.tN ?_
    refine V.condT rfl (fun h10 => ?_) (fun h10 => ?_)
    ·
     try replace h10 := V.dec h10
     try simp only [V.mk0, V.mk1, V.mk2, V.mk3] at h10
     have hT := h10
     refine V.region ?_
     refine V.run T_ok 3 rfl ?_
     refine V.addN rfl rfl rfl rfl rfl (by first | omega | (simp only [List.length_take, List.length_drop, List.length_append, List.length_cons, List.length_nil, List.length_replicate, List.length_set, V.length_data, V.S_size]; omega)) (by first | omega | (simp only [List.length_take, List.length_drop, List.length_append, List.length_cons, List.length_nil, List.length_replicate, List.length_set, V.length_data, V.S_size]; omega)) ?_
     refine V.subN rfl rfl rfl rfl rfl (by first | omega | (simp only [List.length_take, List.length_drop, List.length_append, List.length_cons, List.length_nil, List.length_replicate, List.length_set, V.length_data, V.S_size]; omega)) (by first | omega | (simp only [List.length_take, List.length_drop, List.length_append, List.length_cons, List.length_nil, List.length_replicate, List.length_set, V.length_data, V.S_size]; omega)) ?_
     refine V.run T_ok 3 rfl ?_
     refine V.addN rfl rfl rfl rfl rfl (by first | omega | (simp only [List.length_take, List.length_drop, List.length_append, List.length_cons, List.length_nil, List.length_replicate, List.length_set, V.length_data, V.S_size]; omega)) (by first | omega | (simp only [List.length_take, List.length_drop, List.length_append, List.length_cons, List.length_nil, List.length_replicate, List.length_set, V.length_data, V.S_size]; omega)) ?_
     refine V.subN rfl rfl rfl rfl rfl (by first | omega | (simp only [List.length_take, List.length_drop, List.length_append, List.length_cons, List.length_nil, List.length_replicate, List.length_set, V.length_data, V.S_size]; omega)) (by first | omega | (simp only [List.length_take, List.length_drop, List.length_append, List.length_cons, List.length_nil, List.length_replicate, List.length_set, V.length_data, V.S_size]; omega)) ?_
     obtain ⟨g27, hg27l, hg27u, F28⟩ := V.Row.own1 V.flat_byte F17 (by first | omega | (simp only [List.length_take, List.length_drop, List.length_append, List.length_cons, List.length_nil, List.length_replicate, List.length_set, V.length_data, V.S_size]; omega))
     clear F17
     refine V.elemO' T_ok F28 (by first | rfl | (first | omega | (simp only [List.length_take, List.length_drop, List.length_append, List.length_cons, List.length_nil, List.length_replicate, List.length_set, V.length_data, V.S_size]; omega))) rfl rfl sz5 rfl rfl rfl rfl (by first | omega | (simp only [List.length_take, List.length_drop, List.length_append, List.length_cons, List.length_nil, List.length_replicate, List.length_set, V.length_data, V.S_size]; omega)) (by first | omega | (simp only [List.length_take, List.length_drop, List.length_append, List.length_cons, List.length_nil, List.length_replicate, List.length_set, V.length_data, V.S_size]; omega)) ?_
     rintro hx23
     obtain ⟨cs26, hR24, hA25⟩ := V.Own.el F28 hx23
     obtain ⟨x22, hx22⟩ : ∃ z', (d.nf.take ((comm d.sf d.nf : Int) + (min (max keep 0) ((d.nf.length : Int) - (comm d.sf d.nf : Int)))).toNat)[(((comm d.sf d.nf : Int) + (min (max keep 0) ((d.nf.length : Int) - (comm d.sf d.nf : Int)))) - 1).toNat] = z' := ⟨_, rfl⟩
     rw [hx22] at hR24
     obtain rfl := hR24
     try simp only [Int.toNat_natCast] at hx22 hx23
     refine V.loadA T_ok (o0 := (((comm d.sf d.nf : Int) + (min (max keep 0) ((d.nf.length : Int) - (comm d.sf d.nf : Int)))) - 1).toNat * V.Cod.byte.sz) (off := 0) hA25 rfl rfl rfl rfl rfl ?_
     refine V.run T_ok 1 rfl ?_
     refine V.elemO' T_ok F28 (by first | rfl | (first | omega | (simp only [List.length_take, List.length_drop, List.length_append, List.length_cons, List.length_nil, List.length_replicate, List.length_set, V.length_data, V.S_size]; omega))) rfl rfl sz5 rfl rfl rfl rfl (by first | omega | (simp only [List.length_take, List.length_drop, List.length_append, List.length_cons, List.length_nil, List.length_replicate, List.length_set, V.length_data, V.S_size]; omega)) (by first | omega | (simp only [List.length_take, List.length_drop, List.length_append, List.length_cons, List.length_nil, List.length_replicate, List.length_set, V.length_data, V.S_size]; omega)) ?_
     rintro hx30
     obtain ⟨cs33, hR31, hA32⟩ := V.Own.el F28 hx30
     obtain ⟨x29, hx29⟩ : ∃ z', (d.nf.take ((comm d.sf d.nf : Int) + (min (max keep 0) ((d.nf.length : Int) - (comm d.sf d.nf : Int)))).toNat)[(((comm d.sf d.nf : Int) + (min (max keep 0) ((d.nf.length : Int) - (comm d.sf d.nf : Int)))) - 1).toNat] = z' := ⟨_, rfl⟩
     rw [hx29] at hR31
     obtain rfl := hR31
     try simp only [Int.toNat_natCast] at hx29 hx30
     refine V.storeS (D' := V.None') (j := (((comm d.sf d.nf : Int) + (min (max keep 0) ((d.nf.length : Int) - (comm d.sf d.nf : Int)))) - 1).toNat) (x' := (x22 ^^^ 1)) V.flat_byte F28 rfl rfl rfl (by first | omega | (simp only [List.length_take, List.length_drop, List.length_append, List.length_cons, List.length_nil, List.length_replicate, List.length_set, V.length_data, V.S_size]; omega)) rfl (V.cb1 (V.xor8 x22 1)) rfl sz5 rfl rfl ?_
     rintro w34 G35 z36 Fnew
     clear F28
     have z37 := V.Fr.size G35
     try replace Fk := Fk.ma G35
     try replace Fo0 := Fo0.ma G35
     try replace Fo1 := Fo1.ma G35
     try replace Fo2 := Fo2.ma G35
     try replace Fo3 := Fo3.ma G35
     first | replace FD := FD.mv1 G35 (by first | exact ⟨by omega, by assumption⟩ | exact ⟨by omega, fun h => absurd h.1 (by assumption)⟩ | exact ⟨by omega, fun h => absurd h.1.1 (by assumption)⟩ | exact ⟨by omega, fun h => by first | (have h2 := h.1; have h3 := h.2; omega) | (have h2 := h; dsimp only at h2; omega)⟩ | first | omega | exact fun h => h | exact ⟨by omega, fun h => h⟩ | (intro h; first | (have := hD _ h; omega)) | (refine ⟨by omega, ?_⟩; intro h; first | (have := hD _ h; omega))) | clear FD | skip
     try replace F14 := F14.ma G35
     replace HG := HG.n1 G35
     clear G35
     have F28 := Fnew; clear Fnew
     refine V.nil ?_
     refine V.tN ?_
     refine V.seq ?_
     refine V.region ?_
     refine V.run T_ok 2 rfl ?_
     refine V.nil ?_
     refine V.tN ?_
     refine V.ret ?_
     refine V.done rfl ?_
     subst_vars
     first
       | rw [dLeft_torn (N := ((comm d.sf d.nf : Int) + min (max keep 0) ((d.nf.length : Int) - comm d.sf d.nf)).toNat) (j := ((comm d.sf d.nf : Int) + min (max keep 0) ((d.nf.length : Int) - comm d.sf d.nf) - 1).toNat) (by omega) (by omega) (by first | exact hT.1 | assumption) (by omega) (by omega) rfl (by omega)]
       | rw [dLeft_cut (N := ((comm d.sf d.nf : Int) + min (max keep 0) ((d.nf.length : Int) - comm d.sf d.nf)).toNat) (by omega) (by omega) (by first | omega | (cases torn with | false => exact .inl rfl | true => refine .inr ?_; simp at hT; omega)) (by omega)]
     exact ⟨a15, c16, (by first | rfl | simp only [List.length_set]), (by first | exact (V.Row.back F28 hg27l hg27u).sl | exact (V.Row.back F28 hg27l hg27u).sl.mono (fun k h => ⟨by have := h.1; omega, by have := h.2; omega⟩) | exact (V.Row.back F28 hg27l hg27u).sl.mono (fun k h => hnew k (by have := h.1; omega)) | exact (V.Row.back F28 hg27l hg27u).sl.mono (fun k h => ⟨hnew k (by have := h.1; omega), by have := h.2; omega⟩)), HG⟩
    ·
     try replace h10 := V.dec h10
     try simp only [V.mk0, V.mk1, V.mk2, V.mk3] at h10
     have hT := h10
     refine V.skip ?_
     refine V.tN ?_
     refine V.seq ?_
     refine V.region ?_
     refine V.run T_ok 2 rfl ?_
     refine V.nil ?_
     refine V.tN ?_
     refine V.ret ?_
     refine V.done rfl ?_
     subst_vars
     first
       | rw [dLeft_torn (N := ((comm d.sf d.nf : Int) + min (max keep 0) ((d.nf.length : Int) - comm d.sf d.nf)).toNat) (j := ((comm d.sf d.nf : Int) + min (max keep 0) ((d.nf.length : Int) - comm d.sf d.nf) - 1).toNat) (by omega) (by omega) (by first | exact hT.1 | assumption) (by omega) (by omega) rfl (by omega)]
       | rw [dLeft_cut (N := ((comm d.sf d.nf : Int) + min (max keep 0) ((d.nf.length : Int) - comm d.sf d.nf)).toNat) (by omega) (by omega) (by first | omega | (cases torn with | false => exact .inl rfl | true => refine .inr ?_; simp at hT; omega)) (by omega)]
     exact ⟨a15, c16, (by first | rfl | simp only [List.length_set]), F17.sl.re, HG⟩
  ·
   try replace g6_2 := V.dec g6_2
   try simp only [V.mk0, V.mk1, V.mk2, V.mk3] at g6_2
   refine V.run T_ok 8 rfl ?_
   refine V.nil ?_
   refine V.tN ?_
   refine V.condN rfl rfl ?_
   refine V.skip ?_
   refine V.tN ?_
   refine V.seq ?_
   refine V.region ?_
   refine V.run T_ok 5 rfl ?_
   refine V.loadO T_ok Fk rfl rfl rfl rfl rfl ?_
   refine V.run T_ok 2 rfl ?_
   refine V.subN rfl rfl rfl rfl rfl (by first | omega | (simp only [List.length_take, List.length_drop, List.length_append, List.length_cons, List.length_nil, List.length_replicate, List.length_set, V.length_data, V.S_size]; omega)) (by first | omega | (simp only [List.length_take, List.length_drop, List.length_append, List.length_cons, List.length_nil, List.length_replicate, List.length_set, V.length_data, V.S_size]; omega)) ?_
   refine V.run T_ok 2 rfl ?_
   refine V.nil ?_
   refine V.tN ?_
   refine V.seq ?_
   refine V.region ?_
   refine V.mkSlice T_ok zero5 rfl rfl sz5 rfl rfl rfl rfl rfl rfl ?_
   rintro k38 w41 s43 s44 G42 Fk39
   have z45 := V.Fr.size G42
   try replace Fk := Fk.gr G42
   try replace Fo0 := Fo0.gr G42
   try replace Fo1 := Fo1.gr G42
   try replace Fo2 := Fo2.gr G42
   try replace Fo3 := Fo3.gr G42
   try replace FD := FD.gr G42
   replace HG := HG.grow G42
   clear G42
   have F40 := V.rowOfB (xs := ([] : List UInt8)) Fk39 rfl rfl
   clear Fk39
   refine V.run T_ok 3 rfl ?_
   refine V.loadO T_ok Fk rfl rfl rfl rfl rfl ?_
   refine V.run T_ok 2 rfl ?_
   refine V.addN rfl rfl rfl rfl rfl (by first | omega | (simp only [List.length_take, List.length_drop, List.length_append, List.length_cons, List.length_nil, List.length_replicate, List.length_set, V.length_data, V.S_size]; omega)) (by first | omega | (simp only [List.length_take, List.length_drop, List.length_append, List.length_cons, List.length_nil, List.length_replicate, List.length_set, V.length_data, V.S_size]; omega)) ?_
   refine V.cutL T_ok Fo1 rfl rfl sz5 rfl rfl rfl rfl (by first | omega | (simp only [List.length_take, List.length_drop, List.length_append, List.length_cons, List.length_nil, List.length_replicate, List.length_set, V.length_data, V.S_size]; omega)) (by first | omega | (simp only [List.length_take, List.length_drop, List.length_append, List.length_cons, List.length_nil, List.length_replicate, List.length_set, V.length_data, V.S_size]; omega)) (fun a46 F48 => ?_)
   refine V.appendR (F40) (V.From.flat V.flat_byte (D' := V.None') (F48.from Try.underlying22)) elT22_22 rfl rfl rfl rfl rfl (by first | omega | (simp only [List.length_take, List.length_drop, List.length_append, List.length_cons, List.length_nil, List.length_replicate, List.length_set, V.length_data, V.S_size]; omega)) (by unfold maxLen; first | omega | (simp only [List.length_take, List.length_drop, List.length_append, List.length_cons, List.length_nil, List.length_replicate, List.length_set, V.length_data, V.S_size]; omega)) (by omega) (by omega) (fun _ h => h.elim) (fun _ h => h.elim) ?_
   rintro a49 c50 w52 G53 s54 F51
   clear F40
   have z55 := Go.RowKit.Below.size G53
   first | replace Fk := V.Cells.bl Fk G53 (by omega) | clear Fk | skip
   first | replace Fo0 := V.Sl.bl Fo0 G53 (by first | exact (fun _ h => by have := h.2; omega) | (intro k h; have := hD k h; omega)) | clear Fo0 | skip
   first | replace Fo1 := V.Sl.bl Fo1 G53 (by first | exact (fun _ h => by have := h.2; omega) | (intro k h; have := hD k h; omega)) | clear Fo1 | skip
   first | replace Fo2 := V.Sl.bl Fo2 G53 (by first | exact (fun _ h => by have := h.2; omega) | (intro k h; have := hD k h; omega)) | clear Fo2 | skip
   first | replace Fo3 := V.Sl.bl Fo3 G53 (by first | exact (fun _ h => by have := h.2; omega) | (intro k h; have := hD k h; omega)) | clear Fo3 | skip
   first | replace FD := FD.bl G53 (by first | exact ⟨by omega, fun j h => by have := h.2; omega⟩ | (first | omega | exact fun h => h | exact ⟨by omega, fun h => h⟩ | (intro h; first | (have := hD _ h; omega)) | (refine ⟨by omega, ?_⟩; intro h; first | (have := hD _ h; omega)))) | clear FD | skip
   first | replace F48 := V.Sl.bl F48 G53 (by first | exact (fun _ h => by have := h.2; omega) | (intro k h; have := hD k h; omega)) | clear F48 | skip
   replace HG := HG.bl (Go.RowKit.Below.mono G53 (by omega))
   clear G53
   rw [List.nil_append] at F51 ⊢
   refine V.run T_ok 1 rfl ?_
   refine V.nil ?_
   refine V.tN ?_
   refine V.seq ?_
   refine V.seq ?_
   refine V.region ?_
   refine V.run T_ok 2 rfl ?_
   refine V.andG T_ok 2 1 72 rfl rfl rfl rfl rfl rfl rfl rfl ?_
   refine V.nil ?_
   refine V.tN ?_
   refine V.condT rfl (fun h10 => ?_) (fun h10 => ?_)
   ·
    try replace h10 := V.dec h10
    try simp only [V.mk0, V.mk1, V.mk2, V.mk3] at h10
    have hT := h10
    refine V.region ?_
    refine V.run T_ok 3 rfl ?_
    refine V.addN rfl rfl rfl rfl rfl (by first | omega | (simp only [List.length_take, List.length_drop, List.length_append, List.length_cons, List.length_nil, List.length_replicate, List.length_set, V.length_data, V.S_size]; omega)) (by first | omega | (simp only [List.length_take, List.length_drop, List.length_append, List.length_cons, List.length_nil, List.length_replicate, List.length_set, V.length_data, V.S_size]; omega)) ?_
    refine V.subN rfl rfl rfl rfl rfl (by first | omega | (simp only [List.length_take, List.length_drop, List.length_append, List.length_cons, List.length_nil, List.length_replicate, List.length_set, V.length_data, V.S_size]; omega)) (by first | omega | (simp only [List.length_take, List.length_drop, List.length_append, List.length_cons, List.length_nil, List.length_replicate, List.length_set, V.length_data, V.S_size]; omega)) ?_
    refine V.run T_ok 3 rfl ?_
    refine V.addN rfl rfl rfl rfl rfl (by first | omega | (simp only [List.length_take, List.length_drop, List.length_append, List.length_cons, List.length_nil, List.length_replicate, List.length_set, V.length_data, V.S_size]; omega)) (by first | omega | (simp only [List.length_take, List.length_drop, List.length_append, List.length_cons, List.length_nil, List.length_replicate, List.length_set, V.length_data, V.S_size]; omega)) ?_
    refine V.subN rfl rfl rfl rfl rfl (by first | omega | (simp only [List.length_take, List.length_drop, List.length_append, List.length_cons, List.length_nil, List.length_replicate, List.length_set, V.length_data, V.S_size]; omega)) (by first | omega | (simp only [List.length_take, List.length_drop, List.length_append, List.length_cons, List.length_nil, List.length_replicate, List.length_set, V.length_data, V.S_size]; omega)) ?_
    obtain ⟨g61, hg61l, hg61u, F62⟩ := V.Row.own1 V.flat_byte F51 (by first | omega | (simp only [List.length_take, List.length_drop, List.length_append, List.length_cons, List.length_nil, List.length_replicate, List.length_set, V.length_data, V.S_size]; omega))
    clear F51
    refine V.elemO' T_ok F62 (by first | rfl | (first | omega | (simp only [List.length_take, List.length_drop, List.length_append, List.length_cons, List.length_nil, List.length_replicate, List.length_set, V.length_data, V.S_size]; omega))) rfl rfl sz5 rfl rfl rfl rfl (by first | omega | (simp only [List.length_take, List.length_drop, List.length_append, List.length_cons, List.length_nil, List.length_replicate, List.length_set, V.length_data, V.S_size]; omega)) (by first | omega | (simp only [List.length_take, List.length_drop, List.length_append, List.length_cons, List.length_nil, List.length_replicate, List.length_set, V.length_data, V.S_size]; omega)) ?_
    rintro hx57
    obtain ⟨cs60, hR58, hA59⟩ := V.Own.el F62 hx57
    obtain ⟨x56, hx56⟩ : ∃ z', (d.nf.take ((comm d.sf d.nf : Int) + (min (max keep 0) ((d.nf.length : Int) - (comm d.sf d.nf : Int)))).toNat)[(((comm d.sf d.nf : Int) + (min (max keep 0) ((d.nf.length : Int) - (comm d.sf d.nf : Int)))) - 1).toNat] = z' := ⟨_, rfl⟩
    rw [hx56] at hR58
    obtain rfl := hR58
    try simp only [Int.toNat_natCast] at hx56 hx57
    refine V.loadA T_ok (o0 := (((comm d.sf d.nf : Int) + (min (max keep 0) ((d.nf.length : Int) - (comm d.sf d.nf : Int)))) - 1).toNat * V.Cod.byte.sz) (off := 0) hA59 rfl rfl rfl rfl rfl ?_
    refine V.run T_ok 1 rfl ?_
    refine V.elemO' T_ok F62 (by first | rfl | (first | omega | (simp only [List.length_take, List.length_drop, List.length_append, List.length_cons, List.length_nil, List.length_replicate, List.length_set, V.length_data, V.S_size]; omega))) rfl rfl sz5 rfl rfl rfl rfl (by first | omega | (simp only [List.length_take, List.length_drop, List.length_append, List.length_cons, List.length_nil, List.length_replicate, List.length_set, V.length_data, V.S_size]; omega)) (by first | omega | (simp only [List.length_take, List.length_drop, List.length_append, List.length_cons, List.length_nil, List.length_replicate, List.length_set, V.length_data, V.S_size]; omega)) ?_
    rintro hx64
    obtain ⟨cs67, hR65, hA66⟩ := V.Own.el F62 hx64
    obtain ⟨x63, hx63⟩ : ∃ z', (d.nf.take ((comm d.sf d.nf : Int) + (min (max keep 0) ((d.nf.length : Int) - (comm d.sf d.nf : Int)))).toNat)[(((comm d.sf d.nf : Int) + (min (max keep 0) ((d.nf.length : Int) - (comm d.sf d.nf : Int)))) - 1).toNat] = z' := ⟨_, rfl⟩
    rw [hx63] at hR65
    obtain rfl := hR65
    try simp only [Int.toNat_natCast] at hx63 hx64
    refine V.storeS (D' := V.None') (j := (((comm d.sf d.nf : Int) + (min (max keep 0) ((d.nf.length : Int) - (comm d.sf d.nf : Int)))) - 1).toNat) (x' := (x56 ^^^ 1)) V.flat_byte F62 rfl rfl rfl (by first | omega | (simp only [List.length_take, List.length_drop, List.length_append, List.length_cons, List.length_nil, List.length_replicate, List.length_set, V.length_data, V.S_size]; omega)) rfl (V.cb1 (V.xor8 x56 1)) rfl sz5 rfl rfl ?_
    rintro w68 G69 z70 Fnew
    clear F62
    have z71 := V.Fr.size G69
    try replace Fk := Fk.ma G69
    try replace Fo0 := Fo0.ma G69
    try replace Fo1 := Fo1.ma G69
    try replace Fo2 := Fo2.ma G69
    try replace Fo3 := Fo3.ma G69
    first | replace FD := FD.mv1 G69 (by first | exact ⟨by omega, by assumption⟩ | exact ⟨by omega, fun h => absurd h.1 (by assumption)⟩ | exact ⟨by omega, fun h => absurd h.1.1 (by assumption)⟩ | exact ⟨by omega, fun h => by first | (have h2 := h.1; have h3 := h.2; omega) | (have h2 := h; dsimp only at h2; omega)⟩ | first | omega | exact fun h => h | exact ⟨by omega, fun h => h⟩ | (intro h; first | (have := hD _ h; omega)) | (refine ⟨by omega, ?_⟩; intro h; first | (have := hD _ h; omega))) | clear FD | skip
    try replace F48 := F48.ma G69
    replace HG := HG.n1 G69
    clear G69
    have F62 := Fnew; clear Fnew
    refine V.nil ?_
    refine V.tN ?_
    refine V.seq ?_
    refine V.region ?_
    refine V.run T_ok 2 rfl ?_
    refine V.nil ?_
    refine V.tN ?_
    refine V.ret ?_
    refine V.done rfl ?_
    subst_vars
    first
      | rw [dLeft_torn (N := ((comm d.sf d.nf : Int) + min (max keep 0) ((d.nf.length : Int) - comm d.sf d.nf)).toNat) (j := ((comm d.sf d.nf : Int) + min (max keep 0) ((d.nf.length : Int) - comm d.sf d.nf) - 1).toNat) (by omega) (by omega) (by first | exact hT.1 | assumption) (by omega) (by omega) rfl (by omega)]
      | rw [dLeft_cut (N := ((comm d.sf d.nf : Int) + min (max keep 0) ((d.nf.length : Int) - comm d.sf d.nf)).toNat) (by omega) (by omega) (by first | omega | (cases torn with | false => exact .inl rfl | true => refine .inr ?_; simp at hT; omega)) (by omega)]
    exact ⟨a49, c50, (by first | rfl | simp only [List.length_set]), (by first | exact (V.Row.back F62 hg61l hg61u).sl | exact (V.Row.back F62 hg61l hg61u).sl.mono (fun k h => ⟨by have := h.1; omega, by have := h.2; omega⟩) | exact (V.Row.back F62 hg61l hg61u).sl.mono (fun k h => hnew k (by have := h.1; omega)) | exact (V.Row.back F62 hg61l hg61u).sl.mono (fun k h => ⟨hnew k (by have := h.1; omega), by have := h.2; omega⟩)), HG⟩
   ·
    try replace h10 := V.dec h10
    try simp only [V.mk0, V.mk1, V.mk2, V.mk3] at h10
    have hT := h10
    refine V.skip ?_
    refine V.tN ?_
    refine V.seq ?_
    refine V.region ?_
    refine V.run T_ok 2 rfl ?_
    refine V.nil ?_
    refine V.tN ?_
    refine V.ret ?_
    refine V.done rfl ?_
    subst_vars
    first
      | rw [dLeft_torn (N := ((comm d.sf d.nf : Int) + min (max keep 0) ((d.nf.length : Int) - comm d.sf d.nf)).toNat) (j := ((comm d.sf d.nf : Int) + min (max keep 0) ((d.nf.length : Int) - comm d.sf d.nf) - 1).toNat) (by omega) (by omega) (by first | exact hT.1 | assumption) (by omega) (by omega) rfl (by omega)]
      | rw [dLeft_cut (N := ((comm d.sf d.nf : Int) + min (max keep 0) ((d.nf.length : Int) - comm d.sf d.nf)).toNat) (by omega) (by omega) (by first | omega | (cases torn with | false => exact .inl rfl | true => refine .inr ?_; simp at hT; omega)) (by omega)]
    exact ⟨a49, c50, (by first | rfl | simp only [List.length_set]), F51.sl.re, HG⟩

set_option maxHeartbeats 900000 in
set_option maxRecDepth 10000 in
theorem rcrash_spec {w : World} {k : Nat} {D : Nat → Prop} {d : DiskV} (FD : RDsk w k D d) {keep : Int} {torn : Bool} {cell : Bool}  :
    Meets Try.prog 30 [.pointer (some ⟨k, 0, none⟩), .int .i64 keep, .bool torn, .bool cell] w fun r w' => ∃ (rk39 : Nat), r = .pointer (some ⟨rk39, 0, none⟩) ∧ (w.heap.size ≤ rk39 ∧ rk39 < w'.heap.size) ∧ RDsk w' rk39 (fun j => D j ∧ j ≠ rk39) (dCrash d keep torn cell) ∧ Gr w w' := by
 obtain ⟨hnk, hnew, ao0, co0, ao1, co1, ao2, co2, ao3, co3, Fk, Fo0, Fo1, Fo2, Fo3⟩ := FD.ex
 have hkl := Fk.lt
 have hl0 := Fo0.len63
 replace Fo0 := Fo0.flb
 have hl1 := Fo1.len63
 replace Fo1 := Fo1.flb
 have hl2 := Fo2.len63
 replace Fo2 := Fo2.flb
 have hl3 := Fo3.len63
 replace Fo3 := Fo3.flb
 obtain ⟨hs0, hs1, hs2, hs3⟩ := FD.small
 have hdl := dLeft_len d keep torn hs0 hs2
 have HG := V.Fr.refl [] w
 refine V.enter (n := 43) Try.func30 rfl rfl (by decide) rfl ?_
 refine V.seq ?_
 refine V.region ?_
 refine V.run T_ok 1 rfl ?_
 refine V.nil ?_
 refine V.tN ?_
 refine V.seq ?_
 refine V.drawGT 8 (V.sel [(3, (fun v wz => ∃ (ra38 : Option Addr) (rc38 : Nat), v = .slice ra38 (dLeft d keep torn).length rc38 ∧ Sl V.Cod.byte wz ((fun j => D j ∧ j < wz.heap.size)) ra38 rc38 (dLeft d keep torn)))]) mixed (by kernel_rfl) (V.mono_cons (by rintro v wz wz' g ⟨ra38, rc38, rfl, rF38⟩; exact ⟨ra38, rc38, rfl, (by first | exact (rF38.gr g).mono (V.In.sub (Nat.le_refl _) g.size) | exact rF38.gr g | exact (rF38.gr g).mono (fun _ h => h) (Nat.le_refl _) g.size | exact (rF38.gr g).mono (fun k h => ⟨h.1, Nat.lt_of_lt_of_le h.2 g.size⟩))⟩) V.mono_nil) ?_
 refine V.grun T_ok 3 rfl (V.sel_none rfl) ?_
 refine V.gcall (fun w' h => (rfile_spec (keep := keep) (torn := torn) (FD.gr h.1)).mono (by rintro v w'' ⟨ra38, rc38, rfl, rF38, G⟩; exact ⟨⟨ra38, rc38, rfl, (by first | exact rF38.mono (V.In.mono_l h.1.size) | exact rF38 | exact rF38.mono (fun _ h => h) h.1.size (Nat.le_refl _))⟩, G⟩)) rfl rfl rfl rfl ?_
 rintro _ w4 - - ⟨a1, c2, rfl, -⟩
 refine V.grun T_ok 3 rfl (V.sel_none rfl) ?_
 refine V.gloadO T_ok (fun w' h => Fk.gr h.1) rfl rfl rfl rfl rfl rfl ?_
 refine V.gnil ?_
 rintro w5 G6 hH7
 have z8 := V.Fr.size G6
 try replace Fk := Fk.gr G6
 try replace Fo0 := Fo0.gr G6
 try replace Fo1 := Fo1.gr G6
 try replace Fo2 := Fo2.gr G6
 try replace Fo3 := Fo3.gr G6
 try replace FD := FD.gr G6
 replace HG := HG.grow G6
 clear G6
 have F3 : Sl V.Cod.byte w5 ((fun j => D j ∧ j < w5.heap.size)) a1 c2 (dLeft d keep torn) := by
   obtain ⟨_, _, he, F0⟩ := (V.Hist.here (hH7 3))
   cases he
   exact F0
 clear hH7
 refine V.mkStruct T_ok zero30 rfl rfl rfl rfl rfl ?_
 refine V.box rfl rfl rfl rfl ?_
 rintro k9 w11 s13 s14 G12 Fk10
 have z15 := V.Fr.size G12
 try replace Fk := Fk.gr G12
 try replace Fo0 := Fo0.gr G12
 try replace Fo1 := Fo1.gr G12
 try replace Fo2 := Fo2.gr G12
 try replace Fo3 := Fo3.gr G12
 try replace FD := FD.gr G12
 try replace F3 := F3.gr G12
 replace HG := HG.grow G12
 clear G12
 try simp only [V.cellsL, V.spliceL] at Fk10
 refine V.run T_ok 1 rfl ?_
 refine V.nil ?_
 refine V.tN ?_
 refine V.seq ?_
 refine V.seq ?_
 refine V.region ?_
 refine V.run T_ok 1 rfl ?_
 refine V.nil ?_
 refine V.tN ?_
 refine V.condT rfl (fun h2 => ?_) (fun h2 => ?_)
 ·
  try replace h2 := V.dec h2
  try simp only [V.mk0, V.mk1, V.mk2, V.mk3] at h2
  subst h2
  refine V.region ?_
  refine V.run T_ok 4 rfl ?_
  refine V.loadO T_ok Fk rfl rfl rfl rfl rfl ?_
  refine V.run T_ok 2 rfl ?_
  refine V.storeO Fk10 rfl rfl rfl rfl sz22 rfl rfl rfl rfl ?_
  rintro w16 G17 z19 Fs18
  clear Fk10
  have z20 := V.Fr.size G17
  try replace Fk := Fk.ma G17
  try replace Fo0 := Fo0.ma G17
  try replace Fo1 := Fo1.ma G17
  try replace Fo2 := Fo2.ma G17
  try replace Fo3 := Fo3.ma G17
  first | replace FD := FD.mv1 G17 (by first | exact ⟨by omega, by assumption⟩ | exact ⟨by omega, fun h => absurd h.1 (by assumption)⟩ | exact ⟨by omega, fun h => absurd h.1.1 (by assumption)⟩ | exact ⟨by omega, fun h => by first | (have h2 := h.1; have h3 := h.2; omega) | (have h2 := h; dsimp only at h2; omega)⟩ | first | omega | exact fun h => h | exact ⟨by omega, fun h => h⟩ | (intro h; first | (have := hD _ h; omega)) | (refine ⟨by omega, ?_⟩; intro h; first | (have := hD _ h; omega))) | clear FD | skip
  try replace F3 := F3.ma G17
  replace HG := HG.n1 G17
  clear G17
  have Fk10 := Fs18; clear Fs18
  simp only [V.spliceL, V.cellsL] at Fk10
  refine V.nil ?_
  refine V.tN ?_
  refine V.seq ?_
  refine V.region ?_
  refine V.run T_ok 4 rfl ?_
  refine V.loadO T_ok Fk10 rfl rfl rfl rfl rfl ?_
  refine V.run T_ok 2 rfl ?_
  refine V.storeO Fk10 rfl rfl rfl rfl sz22 rfl rfl rfl rfl ?_
  rintro w21 G22 z24 Fs23
  clear Fk10
  have z25 := V.Fr.size G22
  try replace Fk := Fk.ma G22
  try replace Fo0 := Fo0.ma G22
  try replace Fo1 := Fo1.ma G22
  try replace Fo2 := Fo2.ma G22
  try replace Fo3 := Fo3.ma G22
  first | replace FD := FD.mv1 G22 (by first | exact ⟨by omega, by assumption⟩ | exact ⟨by omega, fun h => absurd h.1 (by assumption)⟩ | exact ⟨by omega, fun h => absurd h.1.1 (by assumption)⟩ | exact ⟨by omega, fun h => by first | (have h2 := h.1; have h3 := h.2; omega) | (have h2 := h; dsimp only at h2; omega)⟩ | first | omega | exact fun h => h | exact ⟨by omega, fun h => h⟩ | (intro h; first | (have := hD _ h; omega)) | (refine ⟨by omega, ?_⟩; intro h; first | (have := hD _ h; omega))) | clear FD | skip
  try replace F3 := F3.ma G22
  replace HG := HG.n1 G22
  clear G22
  have Fk10 := Fs23; clear Fs23
  simp only [V.spliceL, V.cellsL] at Fk10
  refine V.nil ?_
  refine V.tN ?_
  refine V.seq ?_
  refine V.region ?_
  refine V.run T_ok 4 rfl ?_
  refine V.loadO T_ok Fk10 rfl rfl rfl rfl rfl ?_
  refine V.run T_ok 2 rfl ?_
  refine V.storeO Fk10 rfl rfl rfl rfl sz22 rfl rfl rfl rfl ?_
  rintro w26 G27 z29 Fs28
  clear Fk10
  have z30 := V.Fr.size G27
  try replace Fk := Fk.ma G27
  try replace Fo0 := Fo0.ma G27
  try replace Fo1 := Fo1.ma G27
  try replace Fo2 := Fo2.ma G27
  try replace Fo3 := Fo3.ma G27
  first | replace FD := FD.mv1 G27 (by first | exact ⟨by omega, by assumption⟩ | exact ⟨by omega, fun h => absurd h.1 (by assumption)⟩ | exact ⟨by omega, fun h => absurd h.1.1 (by assumption)⟩ | exact ⟨by omega, fun h => by first | (have h2 := h.1; have h3 := h.2; omega) | (have h2 := h; dsimp only at h2; omega)⟩ | first | omega | exact fun h => h | exact ⟨by omega, fun h => h⟩ | (intro h; first | (have := hD _ h; omega)) | (refine ⟨by omega, ?_⟩; intro h; first | (have := hD _ h; omega))) | clear FD | skip
  try replace F3 := F3.ma G27
  replace HG := HG.n1 G27
  clear G27
  have Fk10 := Fs28; clear Fs28
  simp only [V.spliceL, V.cellsL] at Fk10
  refine V.nil ?_
  refine V.tN ?_
  refine V.seq ?_
  refine V.region ?_
  refine V.run T_ok 2 rfl ?_
  refine V.nil ?_
  refine V.tN ?_
  refine V.ret ?_
  refine V.done rfl ?_
  exact ⟨k9, (by first | rfl | simp only [List.length_set]), ⟨by omega, by omega⟩, ⟨⟨fun h => h.2 rfl, fun j hj => ⟨hnew j (by omega), by omega⟩, _, _, _, _, _, _, _, _, Fk10, (F3.mono (fun k h => ⟨h.1, by have := h.2; omega⟩)), (F3.mono (fun k h => ⟨h.1, by have := h.2; omega⟩)), (Fo3.mono (fun k h => ⟨h.1, by have := h.2; omega⟩)), (Fo3.mono (fun k h => ⟨h.1, by have := h.2; omega⟩))⟩, (by refine ⟨?_, ?_, ?_, ?_⟩ <;> simp only [dCrash, cond_true, cond_false] <;> omega)⟩, HG⟩
 ·
  try replace h2 := V.dec h2
  try simp only [V.mk0, V.mk1, V.mk2, V.mk3] at h2
  subst h2
  refine V.skip ?_
  refine V.tN ?_
  refine V.seq ?_
  refine V.region ?_
  refine V.run T_ok 4 rfl ?_
  refine V.loadO T_ok Fk10 rfl rfl rfl rfl rfl ?_
  refine V.run T_ok 2 rfl ?_
  refine V.storeO Fk10 rfl rfl rfl rfl sz22 rfl rfl rfl rfl ?_
  rintro w31 G32 z34 Fs33
  clear Fk10
  have z35 := V.Fr.size G32
  try replace Fk := Fk.ma G32
  try replace Fo0 := Fo0.ma G32
  try replace Fo1 := Fo1.ma G32
  try replace Fo2 := Fo2.ma G32
  try replace Fo3 := Fo3.ma G32
  first | replace FD := FD.mv1 G32 (by first | exact ⟨by omega, by assumption⟩ | exact ⟨by omega, fun h => absurd h.1 (by assumption)⟩ | exact ⟨by omega, fun h => absurd h.1.1 (by assumption)⟩ | exact ⟨by omega, fun h => by first | (have h2 := h.1; have h3 := h.2; omega) | (have h2 := h; dsimp only at h2; omega)⟩ | first | omega | exact fun h => h | exact ⟨by omega, fun h => h⟩ | (intro h; first | (have := hD _ h; omega)) | (refine ⟨by omega, ?_⟩; intro h; first | (have := hD _ h; omega))) | clear FD | skip
  try replace F3 := F3.ma G32
  replace HG := HG.n1 G32
  clear G32
  have Fk10 := Fs33; clear Fs33
  simp only [V.spliceL, V.cellsL] at Fk10
  refine V.nil ?_
  refine V.tN ?_
  refine V.seq ?_
  refine V.region ?_
  refine V.run T_ok 4 rfl ?_
  refine V.loadO T_ok Fk10 rfl rfl rfl rfl rfl ?_
  refine V.run T_ok 2 rfl ?_
  refine V.storeO Fk10 rfl rfl rfl rfl sz22 rfl rfl rfl rfl ?_
  rintro w36 G37 z39 Fs38
  clear Fk10
  have z40 := V.Fr.size G37
  try replace Fk := Fk.ma G37
  try replace Fo0 := Fo0.ma G37
  try replace Fo1 := Fo1.ma G37
  try replace Fo2 := Fo2.ma G37
  try replace Fo3 := Fo3.ma G37
  first | replace FD := FD.mv1 G37 (by first | exact ⟨by omega, by assumption⟩ | exact ⟨by omega, fun h => absurd h.1 (by assumption)⟩ | exact ⟨by omega, fun h => absurd h.1.1 (by assumption)⟩ | exact ⟨by omega, fun h => by first | (have h2 := h.1; have h3 := h.2; omega) | (have h2 := h; dsimp only at h2; omega)⟩ | first | omega | exact fun h => h | exact ⟨by omega, fun h => h⟩ | (intro h; first | (have := hD _ h; omega)) | (refine ⟨by omega, ?_⟩; intro h; first | (have := hD _ h; omega))) | clear FD | skip
  try replace F3 := F3.ma G37
  replace HG := HG.n1 G37
  clear G37
  have Fk10 := Fs38; clear Fs38
  simp only [V.spliceL, V.cellsL] at Fk10
  refine V.nil ?_
  refine V.tN ?_
  refine V.seq ?_
  refine V.region ?_
  refine V.run T_ok 2 rfl ?_
  refine V.nil ?_
  refine V.tN ?_
  refine V.ret ?_
  refine V.done rfl ?_
  exact ⟨k9, (by first | rfl | simp only [List.length_set]), ⟨by omega, by omega⟩, ⟨⟨fun h => h.2 rfl, fun j hj => ⟨hnew j (by omega), by omega⟩, _, _, _, _, _, _, _, _, Fk10, (F3.mono (fun k h => ⟨h.1, by have := h.2; omega⟩)), (F3.mono (fun k h => ⟨h.1, by have := h.2; omega⟩)), (Fo2.mono (fun k h => ⟨h.1, by have := h.2; omega⟩)), (Fo2.mono (fun k h => ⟨h.1, by have := h.2; omega⟩))⟩, (by refine ⟨?_, ?_, ?_, ?_⟩ <;> simp only [dCrash, cond_true, cond_false] <;> omega)⟩, HG⟩

end Go.Proofs.Ytnbijpijbhkcpaa
