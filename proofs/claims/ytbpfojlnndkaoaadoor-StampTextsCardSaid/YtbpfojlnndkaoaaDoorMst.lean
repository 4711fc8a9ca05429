/- Proved here: walks: what functions of this seat's program return and what they leave of memory, each as a contract. Conditions: stated at each theorem. -/
import Derived.Test.YtbpfojlnndkaoaaDoorMpk
namespace Go.Proofs.YtbpfojlnndkaoaaDoor
set_option linter.unusedVariables false
set_option linter.unusedSimpArgs false
open Go
open V (Bytes Meets Env Sl Own Gr Fr Cells S)

def cmpI (x y : Int) : Int := if x < y then -1 else if y < x then 1 else 0
def cmpS (a b c d : Int) : Int := if cmpI a c ≠ 0 then cmpI a c else cmpI b d
def maxSt (a b c d : Int) : Int × Int := if a < c ∨ a = c ∧ b < d then (c, d) else (a, b)
/-- a stamp is right -/
def stR (a b : Int) : Prop := 0 ≤ a ∧ a ≤ 1099511627776 ∧ 0 ≤ b ∧ b ≤ 65535
instance (a b : Int) : Decidable (stR a b) := inferInstanceAs (Decidable (_ ∧ _))
def nextSt (a b : Int) : (Int × Int) × Int := if ¬ stR a b ∨ a = 1099511627776 ∧ b = 65535 then ((0, 0), 31) else if b = 65535 then ((a + 1, 0), 0) else ((a, b + 1), 0)
def plusSt (a t : Int) : Int := min (max (min (max a (-2199023255552)) 2199023255552 + min (max t (-4398046511104)) 4398046511104) 0) 1099511627776
/-- a stamp's bytes -/
def stB (a b : Int) : List UInt8 := numB a.toNat ++ numB b.toNat
/-- the stamp that is read -/
def rdS (d : List UInt8) : ((Int × Int) × Int) × List UInt8 :=
  let x := rdN d 1099511627776
  let y := rdN x.2 65535
  if x.1.2 ≠ 0 ∨ y.1.2 ≠ 0 then (((0, 0), 11), d) else (((x.1.1, y.1.1), 0), y.2)

theorem eqG23 : Tryd.prog.eqGuardType Tryd.prog.depth 23 = false := by kernel_rfl
theorem eqD23 (d : Nat) (w : World) {x0 y0 : Int} {x1 y1 : Int} : (Op.equalIn (d + 2) 23 (.agg #[.int .i64 x0, .int .i64 x1]) (.agg #[.int .i64 y0, .int .i64 y1])).run Tryd.prog w = .ok ((decide (x0 = y0)) && ((decide (x1 = y1)) && (true))) w :=
  V.eqIn_struct _ Tryd.underlying23 (by kernel_rfl) (V.eqF_cons (agg := false) (by decide) sz3 (by kernel_rfl) (by kernel_rfl) rfl rfl (V.eqIn_int _ Tryd.underlying3) (V.eqF_cons (agg := false) (by decide) sz3 (by kernel_rfl) (by kernel_rfl) rfl rfl (V.eqIn_int _ Tryd.underlying3) V.eqF_nil))
theorem eqS23 (w : World) {x0 y0 : Int} {x1 y1 : Int} : (Op.equalIn 10000 23 (.agg #[.int .i64 x0, .int .i64 x1]) (.agg #[.int .i64 y0, .int .i64 y1])).run Tryd.prog w = .ok ((decide (x0 = y0)) && ((decide (x1 = y1)) && (true))) w := eqD23 9998 w

set_option maxHeartbeats 400000 in
set_option maxRecDepth 10000 in
theorem within_spec {w : World}  {n : Int} {l : Int} {m : Int}  :
    Meets Tryd.prog 31 [.int .i64 n, .int .i64 l, .int .i64 m] w fun r w' => r = .bool (decide (l ≤ n ∧ n ≤ m)) ∧ w = w' := by
 refine V.enter (n := 15) Tryd.func31 rfl rfl (by decide) rfl ?_
 refine V.seq ?_
 refine V.region ?_
 refine V.run T_ok 1 rfl ?_
 refine V.nil ?_
 refine V.tN ?_
 refine V.seq ?_
 refine V.region ?_
 refine V.run T_ok 4 rfl ?_
 refine V.andG T_ok 3 3 10 rfl rfl rfl rfl rfl rfl rfl rfl ?_
 refine V.run T_ok 1 rfl ?_
 refine V.nil ?_
 refine V.tN ?_
 refine V.ret ?_
 refine V.done rfl ?_
 exact ⟨(congrArg Value.bool (by first | rfl | (grind))), rfl⟩

set_option maxHeartbeats 400000 in
set_option maxRecDepth 10000 in
theorem right_spec {w : World}  {a : Int} {b : Int}  :
    Meets Tryd.prog 10 [.agg #[.int .i64 a, .int .i64 b]] w fun r w' => r = .bool (decide (0 ≤ a ∧ a ≤ 1099511627776 ∧ 0 ≤ b ∧ b ≤ 65535)) ∧ Gr w w' := by
 have HG := V.Fr.refl [] w
 refine V.enter (n := 11) Tryd.func10 rfl rfl (by decide) rfl ?_
 refine V.seq ?_
 refine V.region ?_
 refine V.box rfl rfl rfl rfl ?_
 rintro k1 w3 s5 s6 G4 Fk2
 have z7 := V.Fr.size G4
 replace HG := HG.grow G4
 clear G4
 try simp only [V.cellsL, V.spliceL] at Fk2
 refine V.run T_ok 1 rfl ?_
 refine V.nil ?_
 refine V.tN ?_
 refine V.seq ?_
 refine V.region ?_
 refine V.run T_ok 1 rfl ?_
 refine V.loadO T_ok Fk2 rfl rfl rfl rfl rfl ?_
 refine V.call (within_spec (n := a) (l := 0) (m := 1099511627776)) rfl rfl rfl ?_
 rintro _ w3_ ⟨rfl, rfl⟩
 refine V.run T_ok 1 rfl ?_
 refine V.split (j := 3) (t := 6) rfl rfl (fun g1_3 => ?_) (fun g1_3 => ?_)
 ·
  try replace g1_3 := V.dec g1_3
  try simp only [V.mk0, V.mk1, V.mk2, V.mk3] at g1_3
  refine V.run T_ok 1 rfl ?_
  refine V.yes rfl rfl rfl ?_
  refine V.loadO T_ok Fk2 rfl rfl rfl rfl rfl ?_
  refine V.yes rfl rfl rfl ?_
  refine V.call (within_spec (n := b) (l := 0) (m := 65535)) rfl rfl rfl ?_
  rintro _ w3_ ⟨rfl, rfl⟩
  refine V.run T_ok 2 rfl ?_
  refine V.nil ?_
  refine V.tN ?_
  refine V.ret ?_
  refine V.done rfl ?_
  exact ⟨(congrArg Value.bool (by first | rfl | (grind))), HG⟩
 ·
  try replace g1_3 := V.dec g1_3
  try simp only [V.mk0, V.mk1, V.mk2, V.mk3] at g1_3
  refine V.run T_ok 5 rfl ?_
  refine V.nil ?_
  refine V.tN ?_
  refine V.ret ?_
  refine V.done rfl ?_
  exact ⟨(congrArg Value.bool (by first | rfl | (grind))), HG⟩

set_option maxHeartbeats 400000 in
set_option maxRecDepth 10000 in
theorem isnan_spec {w : World}  {x : Int}  :
    Meets Tryd.prog 41 [.int .i64 x] w fun r w' => r = .bool false ∧ w = w' := by
 refine V.enter (n := 6) Tryd.func41 rfl rfl (by decide) rfl ?_
 refine V.seq ?_
 refine V.region ?_
 refine V.run T_ok 1 rfl ?_
 refine V.nil ?_
 refine V.tN ?_
 refine V.seq ?_
 refine V.region ?_
 refine V.run T_ok 4 rfl ?_
 refine V.nil ?_
 refine V.tN ?_
 refine V.ret ?_
 refine V.done rfl ?_
 exact ⟨(congrArg Value.bool (by first | rfl | (grind))), rfl⟩

set_option maxHeartbeats 400000 in
set_option maxRecDepth 10000 in
theorem cmp_spec {w : World}  {x : Int} {y : Int}  :
    Meets Tryd.prog 33 [.int .i64 x, .int .i64 y] w fun r w' => r = .int .i64 (cmpI x y) ∧ w = w' := by
 refine V.enter (n := 20) Tryd.func33 rfl rfl (by decide) rfl ?_
 refine V.seq ?_
 refine V.region ?_
 refine V.run T_ok 1 rfl ?_
 refine V.nil ?_
 refine V.tN ?_
 refine V.seq ?_
 refine V.region ?_
 refine V.run T_ok 1 rfl ?_
 refine V.call (isnan_spec (x := x)) rfl rfl rfl ?_
 rintro _ w_ ⟨rfl, rfl⟩
 refine V.run T_ok 1 rfl ?_
 refine V.nil ?_
 refine V.tN ?_
 refine V.seq ?_
 refine V.region ?_
 refine V.run T_ok 1 rfl ?_
 refine V.call (isnan_spec (x := y)) rfl rfl rfl ?_
 rintro _ w_ ⟨rfl, rfl⟩
 refine V.run T_ok 1 rfl ?_
 refine V.nil ?_
 refine V.tN ?_
 refine V.seq ?_
 refine V.seq ?_
 refine V.region ?_
 refine V.run T_ok 1 rfl ?_
 refine V.nil ?_
 refine V.tN ?_
 refine V.condN rfl rfl ?_
 refine V.skip ?_
 refine V.tN ?_
 refine V.seq ?_
 refine V.seq ?_
 refine V.region ?_
 refine V.run T_ok 1 rfl ?_
 refine V.nil ?_
 refine V.tN ?_
 refine V.condN rfl rfl ?_
 refine V.skip ?_
 refine V.tN ?_
 refine V.seq ?_
 refine V.seq ?_
 refine V.region ?_
 refine V.run T_ok 3 rfl ?_
 refine V.nil ?_
 refine V.tN ?_
 refine V.condT rfl (fun h9 => ?_) (fun h9 => ?_)
 ·
  try replace h9 := V.dec h9
  try simp only [V.mk0, V.mk1, V.mk2, V.mk3] at h9
  refine V.seq ?_
  refine V.region ?_
  refine V.run T_ok 1 rfl ?_
  refine V.nil ?_
  refine V.tN ?_
  refine V.ret ?_
  refine V.tR ?_
  refine V.done rfl ?_
  exact ⟨(congrArg (Value.int .i64) (by first | rfl | (unfold cmpI; grind))), rfl⟩
 ·
  try replace h9 := V.dec h9
  try simp only [V.mk0, V.mk1, V.mk2, V.mk3] at h9
  refine V.skip ?_
  refine V.tN ?_
  refine V.seq ?_
  refine V.seq ?_
  refine V.region ?_
  refine V.run T_ok 3 rfl ?_
  refine V.nil ?_
  refine V.tN ?_
  refine V.condT rfl (fun h11 => ?_) (fun h11 => ?_)
  ·
   try replace h11 := V.dec h11
   try simp only [V.mk0, V.mk1, V.mk2, V.mk3] at h11
   refine V.seq ?_
   refine V.region ?_
   refine V.run T_ok 1 rfl ?_
   refine V.nil ?_
   refine V.tN ?_
   refine V.ret ?_
   refine V.tR ?_
   refine V.done rfl ?_
   exact ⟨(congrArg (Value.int .i64) (by first | rfl | (unfold cmpI; grind))), rfl⟩
  ·
   try replace h11 := V.dec h11
   try simp only [V.mk0, V.mk1, V.mk2, V.mk3] at h11
   refine V.skip ?_
   refine V.tN ?_
   refine V.seq ?_
   refine V.region ?_
   refine V.run T_ok 1 rfl ?_
   refine V.nil ?_
   refine V.tN ?_
   refine V.ret ?_
   refine V.done rfl ?_
   exact ⟨(congrArg (Value.int .i64) (by first | rfl | (unfold cmpI; grind))), rfl⟩


def orL : List Int → Int
  | [] => 0
  | x :: l => if x ≠ 0 then x else orL l
theorem orL_drop : ∀ (l : List Int) (i : Nat), (∀ j (h : j < l.length), j < i → l[j] = 0) → orL l = orL (l.drop i)
  | [], i, _ => by simp
  | x :: l, 0, _ => rfl
  | x :: l, i + 1, h => by
    have h0 := h 0 (by simp) (by omega)
    simp only [List.getElem_cons_zero] at h0
    subst h0
    simp only [orL, List.drop_succ_cons]
    exact orL_drop l i fun j hj hji => by have := h (j + 1) (by simpa using hj) (by omega); simpa using this
theorem orL_at {l : List Int} {i : Nat} {x : Int} (h : ∀ j (h : j < l.length), j < i → l[j] = 0) (hi : i < l.length) (hx : l[i] = x) (h0 : x ≠ 0) : orL l = x := by
  rw [orL_drop l i h, List.drop_eq_getElem_cons hi, hx, orL, if_pos h0]
theorem orL_end {l : List Int} (h : ∀ j (h : j < l.length), l[j] = 0) : orL l = 0 := by
  rw [orL_drop l l.length fun j hj _ => h j hj]; simp [orL]

set_option maxHeartbeats 400000 in
set_option maxRecDepth 10000 in
theorem or_spec {w : World}  {D_l : Nat → Prop} {c_l : Nat} {a_l : Option Addr} {l : List Int} (F_l : Sl (V.Cod.int .i64) w D_l a_l c_l l)  :
    Meets Tryd.prog 32 [.slice a_l l.length c_l] w fun r w' => r = .int .i64 (orL l) ∧ w = w' := by
 refine V.enter (n := 18) Tryd.func32 rfl rfl (by decide) rfl ?_
 refine V.seq ?_
 refine V.region ?_
 refine V.run T_ok 1 rfl ?_
 refine V.nil ?_
 refine V.tN ?_
 refine V.seq ?_
 refine V.region ?_
 refine V.run T_ok 1 rfl ?_
 refine V.nil ?_
 refine V.tN ?_
 refine V.seq ?_
 refine V.seq ?_
 refine V.region ?_
 refine V.run T_ok 3 rfl ?_
 refine V.nil ?_
 refine V.tN ?_
 refine V.block ?_
 have hl63 := F_l.len63
 refine V.loopM (fun m e v2 => w = v2 ∧ ∃ (i : Nat) , m = l.length - i ∧ i ≤ l.length ∧ (∀ j (hj : j < l.length), j < i → l[j] = 0) ∧ e 3 = .int .i64 0 ∧ e 6 = .slice a_l l.length c_l ∧ e 7 = .int .i64 (l.length : Int) ∧ e 8 = .int .i64 (i : Int)) ?_ ?_
 ·
  exact ⟨_, rfl, (0), rfl, (by omega), (fun j hj h => absurd h (Nat.not_lt_zero _)), rfl, rfl, rfl, rfl⟩
 rintro _ e v2 ⟨rfl, i, rfl, hi, hno, he0_3, he0_6, he0_7, he0_8⟩
 refine V.knownC (t := 3) he0_3 ?_
 refine V.knownC (t := 6) he0_6 ?_
 refine V.knownC (t := 7) he0_7 ?_
 refine V.knownC (t := 8) he0_8 ?_
 refine V.seq ?_
 refine V.region ?_
 refine V.run T_ok 1 rfl ?_
 refine V.nil ?_
 refine V.tN ?_
 refine V.seq ?_
 refine V.condT rfl (fun h3 => ?_) (fun h3 => ?_)
 ·
  try replace h3 := V.dec h3
  try simp only [V.mk0, V.mk1, V.mk2, V.mk3] at h3
  refine V.skip ?_
  refine V.tN ?_
  refine V.seq ?_
  refine V.block ?_
  refine V.seq ?_
  refine V.region ?_
  refine V.elem T_ok F_l rfl rfl sz3 rfl rfl rfl rfl (by first | omega | (simp only [List.length_take, List.length_drop, List.length_append, List.length_cons, List.length_nil, List.length_replicate, List.length_set, V.length_data, V.S_size]; omega)) (by first | omega | (simp only [List.length_take, List.length_drop, List.length_append, List.length_cons, List.length_nil, List.length_replicate, List.length_set, V.length_data, V.S_size]; omega)) ?_
  rintro b3 o4 cs5 hx6 hb7 hR10 hA8
  obtain ⟨x9, hx9⟩ : ∃ z', l[((i : Int)).toNat] = z' := ⟨_, rfl⟩
  rw [hx9] at hR10
  obtain rfl := hR10
  try simp only [Int.toNat_natCast] at hx9 hx6
  refine V.loadA T_ok (o0 := o4) (off := 0) hA8 rfl rfl rfl rfl rfl ?_
  refine V.run T_ok 1 rfl ?_
  refine V.nil ?_
  refine V.tN ?_
  refine V.seq ?_
  refine V.region ?_
  refine V.run T_ok 3 rfl ?_
  refine V.nil ?_
  refine V.tN ?_
  refine V.condT rfl (fun h5 => ?_) (fun h5 => ?_)
  ·
   try replace h5 := V.dec h5
   try simp only [V.mk0, V.mk1, V.mk2, V.mk3] at h5
   refine V.seq ?_
   refine V.region ?_
   refine V.run T_ok 2 rfl ?_
   refine V.nil ?_
   refine V.tN ?_
   refine V.ret ?_
   refine V.bR ?_
   refine V.tR ?_
   refine V.tR ?_
   refine V.bR ?_
   refine V.tR ?_
   refine V.done rfl ?_
   exact ⟨congrArg (Value.int .i64) (orL_at hno (by omega) hx9 (by assumption)).symm, rfl⟩
  ·
   try replace h5 := V.dec h5
   try simp only [V.mk0, V.mk1, V.mk2, V.mk3] at h5
   refine V.skip ?_
   refine V.bN ?_
   refine V.tN ?_
   refine V.region ?_
   refine V.addN rfl rfl rfl rfl rfl (by first | omega | (simp only [List.length_take, List.length_drop, List.length_append, List.length_cons, List.length_nil, List.length_replicate, List.length_set, V.length_data, V.S_size]; omega)) (by first | omega | (simp only [List.length_take, List.length_drop, List.length_append, List.length_cons, List.length_nil, List.length_replicate, List.length_set, V.length_data, V.S_size]; omega)) ?_
   refine V.run T_ok 1 rfl ?_
   refine V.nil ?_
   refine V.tN ?_
   exact ⟨_, (by omega), rfl, (i + 1), rfl, (by omega), (fun j hj h => by rcases Nat.lt_or_ge j i with h2 | h2; exact hno j hj h2; obtain rfl : j = i := (by omega); subst_vars; assumption), rfl, rfl, rfl, rfl⟩
 ·
  try replace h3 := V.dec h3
  try simp only [V.mk0, V.mk1, V.mk2, V.mk3] at h3
  refine V.exit ?_
  refine V.tX ?_
  refine V.tX ?_
  refine V.bE ?_
  refine V.tN ?_
  refine V.seq ?_
  refine V.region ?_
  refine V.run T_ok 2 rfl ?_
  refine V.nil ?_
  refine V.tN ?_
  refine V.ret ?_
  refine V.done rfl ?_
  exact ⟨congrArg (Value.int .i64) (orL_end fun j hj => hno j hj (by omega)).symm, rfl⟩

set_option maxHeartbeats 400000 in
set_option maxRecDepth 10000 in
theorem compare_spec {w : World}  {a : Int} {b : Int} {c : Int} {d : Int}  :
    Meets Tryd.prog 14 [.agg #[.int .i64 a, .int .i64 b], .agg #[.int .i64 c, .int .i64 d]] w fun r w' => r = .int .i64 (cmpS a b c d) ∧ Gr w w' := by
 have HG := V.Fr.refl [] w
 refine V.enter (n := 17) Tryd.func14 rfl rfl (by decide) rfl ?_
 refine V.seq ?_
 refine V.region ?_
 refine V.box rfl rfl rfl rfl ?_
 rintro k1 w3 s5 s6 G4 Fk2
 have z7 := V.Fr.size G4
 replace HG := HG.grow G4
 clear G4
 try simp only [V.cellsL, V.spliceL] at Fk2
 refine V.box rfl rfl rfl rfl ?_
 rintro k8 w10 s12 s13 G11 Fk9
 have z14 := V.Fr.size G11
 try replace Fk2 := Fk2.gr G11
 replace HG := HG.grow G11
 clear G11
 try simp only [V.cellsL, V.spliceL] at Fk9
 refine V.run T_ok 1 rfl ?_
 refine V.nil ?_
 refine V.tN ?_
 refine V.seq ?_
 refine V.drawT 10 mixed (by kernel_rfl) ?_
 rintro w15 G16 s17
 have z18 := V.Fr.size G16
 try replace Fk2 := Fk2.gr G16
 try replace Fk9 := Fk9.gr G16
 replace HG := HG.grow G16
 clear G16
 refine V.qrun T_ok 1 rfl ?_
 refine V.qloadO T_ok Fk2 rfl rfl rfl rfl rfl ?_
 refine V.qrun T_ok 1 rfl ?_
 refine V.qloadO T_ok Fk9 rfl rfl rfl rfl rfl ?_
 refine V.qcallS (fun w1 g => V.Meets.s (cmp_spec (x := a) (y := c))) rfl rfl rfl ?_
 refine V.qrun T_ok 1 rfl ?_
 refine V.qloadO T_ok Fk2 rfl rfl rfl rfl rfl ?_
 refine V.qrun T_ok 1 rfl ?_
 refine V.qloadO T_ok Fk9 rfl rfl rfl rfl rfl ?_
 refine V.qcallS (fun w1 g => V.Meets.s (cmp_spec (x := b) (y := d))) rfl rfl rfl ?_
 refine V.qnil ?_
 refine V.mkSlice T_ok zero3 rfl rfl sz3 rfl rfl rfl rfl rfl rfl ?_
 rintro k19 w22 s24 s25 G23 Fk20
 have z26 := V.Fr.size G23
 try replace Fk2 := Fk2.gr G23
 try replace Fk9 := Fk9.gr G23
 replace HG := HG.grow G23
 clear G23
 have F21 := V.rowOfI (q := .i64) (xs := ([cmpI a c, cmpI b d] : List Int)) Fk20 rfl rfl
 clear Fk20
 refine V.call (or_spec F21.sl) rfl rfl rfl ?_
 rintro _ w22_ ⟨rfl, rfl⟩
 refine V.run T_ok 1 rfl ?_
 refine V.nil ?_
 refine V.tN ?_
 refine V.ret ?_
 refine V.done rfl ?_
 exact ⟨(congrArg (Value.int .i64) (by first | rfl | (unfold cmpS; simp only [orL]; grind))), HG⟩

theorem cmpS_lt {a b c d : Int} : cmpS a b c d < 0 ↔ a < c ∨ a = c ∧ b < d := by unfold cmpS cmpI; grind
theorem cmpI_rng (x y : Int) : -1 ≤ cmpI x y ∧ cmpI x y ≤ 1 := by unfold cmpI; grind
theorem cmpS_neg {a b c d : Int} : IntKind.i64.wrap (0 - cmpS c d a b) = cmpS a b c d := by
  have h1 := cmpI_rng c a
  have h2 := cmpI_rng d b
  rw [V.wrap_in (x := 0 - cmpS c d a b) (by unfold cmpS; grind) (by unfold cmpS; grind)]
  unfold cmpS cmpI; grind

set_option maxHeartbeats 400000 in
set_option maxRecDepth 10000 in
theorem less_spec {w : World}  {a : Int} {b : Int} {c : Int} {d : Int}  :
    Meets Tryd.prog 13 [.agg #[.int .i64 a, .int .i64 b], .agg #[.int .i64 c, .int .i64 d]] w fun r w' => r = .bool (decide (a < c ∨ a = c ∧ b < d)) ∧ Gr w w' := by
 have HG := V.Fr.refl [] w
 refine V.enter (n := 9) Tryd.func13 rfl rfl (by decide) rfl ?_
 refine V.seq ?_
 refine V.region ?_
 refine V.box rfl rfl rfl rfl ?_
 rintro k1 w3 s5 s6 G4 Fk2
 have z7 := V.Fr.size G4
 replace HG := HG.grow G4
 clear G4
 try simp only [V.cellsL, V.spliceL] at Fk2
 refine V.box rfl rfl rfl rfl ?_
 rintro k8 w10 s12 s13 G11 Fk9
 have z14 := V.Fr.size G11
 try replace Fk2 := Fk2.gr G11
 replace HG := HG.grow G11
 clear G11
 try simp only [V.cellsL, V.spliceL] at Fk9
 refine V.run T_ok 1 rfl ?_
 refine V.nil ?_
 refine V.tN ?_
 refine V.seq ?_
 refine V.region ?_
 refine V.loadO T_ok Fk2 rfl rfl rfl rfl rfl ?_
 refine V.loadO T_ok Fk9 rfl rfl rfl rfl rfl ?_
 refine V.call (compare_spec (a := a) (b := b) (c := c) (d := d)) rfl rfl rfl ?_
 rintro _ w15 ⟨rfl, G16⟩
 have z17 := V.Fr.size G16
 try replace Fk2 := Fk2.gr G16
 try replace Fk9 := Fk9.gr G16
 replace HG := HG.grow G16
 clear G16
 refine V.run T_ok 2 rfl ?_
 refine V.nil ?_
 refine V.tN ?_
 refine V.ret ?_
 refine V.done rfl ?_
 exact ⟨(congrArg Value.bool (by first | rfl | (exact decide_eq_decide.2 cmpS_lt))), HG⟩

set_option maxHeartbeats 400000 in
set_option maxRecDepth 10000 in
theorem max_spec {w : World}  {a : Int} {b : Int} {c : Int} {d : Int}  :
    Meets Tryd.prog 15 [.agg #[.int .i64 a, .int .i64 b], .agg #[.int .i64 c, .int .i64 d]] w fun r w' => r = .agg #[.int .i64 ((maxSt a b c d).1), .int .i64 ((maxSt a b c d).2)] ∧ Gr w w' := by
 have HG := V.Fr.refl [] w
 refine V.enter (n := 10) Tryd.func15 rfl rfl (by decide) rfl ?_
 refine V.seq ?_
 refine V.region ?_
 refine V.box rfl rfl rfl rfl ?_
 rintro k1 w3 s5 s6 G4 Fk2
 have z7 := V.Fr.size G4
 replace HG := HG.grow G4
 clear G4
 try simp only [V.cellsL, V.spliceL] at Fk2
 refine V.box rfl rfl rfl rfl ?_
 rintro k8 w10 s12 s13 G11 Fk9
 have z14 := V.Fr.size G11
 try replace Fk2 := Fk2.gr G11
 replace HG := HG.grow G11
 clear G11
 try simp only [V.cellsL, V.spliceL] at Fk9
 refine V.alloc zero23 rfl rfl rfl ?_
 rintro k15 w17 s19 s20 G18 Fk16
 have z21 := V.Fr.size G18
 try replace Fk2 := Fk2.gr G18
 try replace Fk9 := Fk9.gr G18
 replace HG := HG.grow G18
 clear G18
 try simp only [V.cellsL, V.spliceL] at Fk16
 refine V.nil ?_
 refine V.tN ?_
 refine V.seq ?_
 refine V.seq ?_
 refine V.region ?_
 refine V.loadO T_ok Fk2 rfl rfl rfl rfl rfl ?_
 refine V.loadO T_ok Fk9 rfl rfl rfl rfl rfl ?_
 refine V.call (less_spec (a := a) (b := b) (c := c) (d := d)) rfl rfl rfl ?_
 rintro _ w22 ⟨rfl, G23⟩
 have z24 := V.Fr.size G23
 try replace Fk2 := Fk2.gr G23
 try replace Fk9 := Fk9.gr G23
 try replace Fk16 := Fk16.gr G23
 replace HG := HG.grow G23
 clear G23
 refine V.nil ?_
 refine V.tN ?_
 refine V.condT rfl (fun h1 => ?_) (fun h1 => ?_)
 ·
  try replace h1 := V.dec h1
  try simp only [V.mk0, V.mk1, V.mk2, V.mk3] at h1
  refine V.seq ?_
  refine V.region ?_
  refine V.loadO T_ok Fk9 rfl rfl rfl rfl rfl ?_
  refine V.storeO Fk16 rfl rfl rfl rfl sz23 rfl rfl rfl rfl ?_
  rintro w25 G26 z28 Fs27
  clear Fk16
  have z29 := V.Fr.size G26
  first | replace Fk2 := Fk2.mv1 G26 (by omega) | clear Fk2 | skip
  first | replace Fk9 := Fk9.mv1 G26 (by omega) | clear Fk9 | skip
  replace HG := HG.n1 G26
  clear G26
  have Fk16 := Fs27; clear Fs27
  simp only [V.spliceL, V.cellsL] at Fk16
  refine V.nil ?_
  refine V.tN ?_
  refine V.ret ?_
  refine V.tR ?_
  refine V.done1 rfl (V.resV_cell T_ok Fk16 rfl rfl) ?_
  rw [show ((maxSt a b c d).1 : Int) = c by (unfold maxSt; grind)]
  rw [show ((maxSt a b c d).2 : Int) = d by (unfold maxSt; grind)]
  exact ⟨(by first | rfl | simp only [List.length_set]), HG⟩
 ·
  try replace h1 := V.dec h1
  try simp only [V.mk0, V.mk1, V.mk2, V.mk3] at h1
  refine V.skip ?_
  refine V.tN ?_
  refine V.seq ?_
  refine V.region ?_
  refine V.loadO T_ok Fk2 rfl rfl rfl rfl rfl ?_
  refine V.storeO Fk16 rfl rfl rfl rfl sz23 rfl rfl rfl rfl ?_
  rintro w30 G31 z33 Fs32
  clear Fk16
  have z34 := V.Fr.size G31
  first | replace Fk2 := Fk2.mv1 G31 (by omega) | clear Fk2 | skip
  first | replace Fk9 := Fk9.mv1 G31 (by omega) | clear Fk9 | skip
  replace HG := HG.n1 G31
  clear G31
  have Fk16 := Fs32; clear Fs32
  simp only [V.spliceL, V.cellsL] at Fk16
  refine V.nil ?_
  refine V.tN ?_
  refine V.ret ?_
  refine V.done1 rfl (V.resV_cell T_ok Fk16 rfl rfl) ?_
  rw [show ((maxSt a b c d).1 : Int) = a by (unfold maxSt; grind)]
  rw [show ((maxSt a b c d).2 : Int) = b by (unfold maxSt; grind)]
  exact ⟨(by first | rfl | simp only [List.length_set]), HG⟩

set_option maxHeartbeats 400000 in
set_option maxRecDepth 10000 in
theorem snext_spec {w : World}  {a : Int} {b : Int}  :
    Meets Tryd.prog 16 [.agg #[.int .i64 a, .int .i64 b]] w fun r w' => r = .tuple #[.agg #[.int .i64 (((nextSt a b).1).1), .int .i64 (((nextSt a b).1).2)], .int .i64 ((nextSt a b).2)] ∧ Gr w w' := by
 have HG := V.Fr.refl [] w
 refine V.enter (n := 29) Tryd.func16 rfl rfl (by decide) rfl ?_
 refine V.seq ?_
 refine V.region ?_
 refine V.box rfl rfl rfl rfl ?_
 rintro k1 w3 s5 s6 G4 Fk2
 have z7 := V.Fr.size G4
 replace HG := HG.grow G4
 clear G4
 try simp only [V.cellsL, V.spliceL] at Fk2
 refine V.alloc zero23 rfl rfl rfl ?_
 rintro k8 w10 s12 s13 G11 Fk9
 have z14 := V.Fr.size G11
 try replace Fk2 := Fk2.gr G11
 replace HG := HG.grow G11
 clear G11
 try simp only [V.cellsL, V.spliceL] at Fk9
 refine V.run T_ok 1 rfl ?_
 refine V.nil ?_
 refine V.tN ?_
 refine V.seq ?_
 refine V.region ?_
 refine V.mkStruct T_ok zero23 rfl rfl rfl rfl rfl ?_
 refine V.alloc zero23 rfl rfl rfl ?_
 rintro k15 w17 s19 s20 G18 Fk16
 have z21 := V.Fr.size G18
 try replace Fk2 := Fk2.gr G18
 try replace Fk9 := Fk9.gr G18
 replace HG := HG.grow G18
 clear G18
 try simp only [V.cellsL, V.spliceL] at Fk16
 refine V.storeO Fk16 rfl rfl rfl rfl sz23 rfl rfl rfl rfl ?_
 rintro w22 G23 z25 Fs24
 clear Fk16
 have z26 := V.Fr.size G23
 first | replace Fk2 := Fk2.mv1 G23 (by omega) | clear Fk2 | skip
 first | replace Fk9 := Fk9.mv1 G23 (by omega) | clear Fk9 | skip
 replace HG := HG.n1 G23
 clear G23
 have Fk16 := Fs24; clear Fs24
 simp only [V.spliceL, V.cellsL] at Fk16
 refine V.nil ?_
 refine V.tN ?_
 refine V.seq ?_
 refine V.block ?_
 refine V.seq ?_
 refine V.region ?_
 refine V.loadO T_ok Fk2 rfl rfl rfl rfl rfl ?_
 refine V.call (right_spec (a := a) (b := b)) rfl rfl rfl ?_
 rintro _ w27 ⟨rfl, G28⟩
 have z29 := V.Fr.size G28
 try replace Fk2 := Fk2.gr G28
 try replace Fk9 := Fk9.gr G28
 try replace Fk16 := Fk16.gr G28
 replace HG := HG.grow G28
 clear G28
 refine V.run T_ok 2 rfl ?_
 refine V.split (j := 3) (t := 10) rfl rfl (fun g2_3 => ?_) (fun g2_3 => ?_)
 ·
  try replace g2_3 := V.dec g2_3
  try simp only [V.mk0, V.mk1, V.mk2, V.mk3] at g2_3
  refine V.run T_ok 5 rfl ?_
  refine V.nil ?_
  refine V.tN ?_
  refine V.condY rfl rfl ?_
  refine V.seq ?_
  refine V.region ?_
  refine V.mkStruct T_ok zero23 rfl rfl rfl rfl rfl ?_
  refine V.storeO Fk9 rfl rfl rfl rfl sz23 rfl rfl rfl rfl ?_
  rintro w30 G31 z33 Fs32
  clear Fk9
  have z34 := V.Fr.size G31
  first | replace Fk2 := Fk2.mv1 G31 (by omega) | clear Fk2 | skip
  first | replace Fk16 := Fk16.mv1 G31 (by omega) | clear Fk16 | skip
  replace HG := HG.n1 G31
  clear G31
  have Fk9 := Fs32; clear Fs32
  simp only [V.spliceL, V.cellsL] at Fk9
  refine V.run T_ok 1 rfl ?_
  refine V.nil ?_
  refine V.tN ?_
  refine V.ret ?_
  refine V.bR ?_
  refine V.tR ?_
  refine V.done2 rfl (V.resV_cell T_ok Fk9 rfl rfl) (V.resV_tmp rfl) ?_
  rw [show (((nextSt a b).1).1 : Int) = 0 by (unfold nextSt stR; grind)]
  rw [show (((nextSt a b).1).2 : Int) = 0 by (unfold nextSt stR; grind)]
  rw [show ((nextSt a b).2 : Int) = 31 by (unfold nextSt stR; grind)]
  exact ⟨(by first | rfl | simp only [List.length_set]), HG⟩
 ·
  try replace g2_3 := V.dec g2_3
  try simp only [V.mk0, V.mk1, V.mk2, V.mk3] at g2_3
  refine V.yes rfl rfl rfl ?_
  refine V.loadO T_ok Fk2 rfl rfl rfl rfl rfl ?_
  refine V.yes rfl rfl rfl ?_
  refine V.loadO T_ok Fk16 rfl rfl rfl rfl rfl ?_
  refine V.yes rfl rfl rfl ?_
  refine V.step rfl rfl (V.eqA_run rfl rfl rfl eqG23 (eqS23 _)) ?_
  refine V.run T_ok 2 rfl ?_
  refine V.nil ?_
  refine V.tN ?_
  refine V.condT rfl (fun h2 => ?_) (fun h2 => ?_)
  ·
   try replace h2 := V.dec h2
   try simp only [V.mk0, V.mk1, V.mk2, V.mk3] at h2
   refine V.seq ?_
   refine V.region ?_
   refine V.mkStruct T_ok zero23 rfl rfl rfl rfl rfl ?_
   refine V.storeO Fk9 rfl rfl rfl rfl sz23 rfl rfl rfl rfl ?_
   rintro w35 G36 z38 Fs37
   clear Fk9
   have z39 := V.Fr.size G36
   first | replace Fk2 := Fk2.mv1 G36 (by omega) | clear Fk2 | skip
   first | replace Fk16 := Fk16.mv1 G36 (by omega) | clear Fk16 | skip
   replace HG := HG.n1 G36
   clear G36
   have Fk9 := Fs37; clear Fs37
   simp only [V.spliceL, V.cellsL] at Fk9
   refine V.run T_ok 1 rfl ?_
   refine V.nil ?_
   refine V.tN ?_
   refine V.ret ?_
   refine V.bR ?_
   refine V.tR ?_
   refine V.done2 rfl (V.resV_cell T_ok Fk9 rfl rfl) (V.resV_tmp rfl) ?_
   rw [show (((nextSt a b).1).1 : Int) = 0 by (unfold nextSt stR; grind)]
   rw [show (((nextSt a b).1).2 : Int) = 0 by (unfold nextSt stR; grind)]
   rw [show ((nextSt a b).2 : Int) = 31 by (unfold nextSt stR; grind)]
   exact ⟨(by first | rfl | simp only [List.length_set]), HG⟩
  ·
   try replace h2 := V.dec h2
   try simp only [V.mk0, V.mk1, V.mk2, V.mk3] at h2
   refine V.seq ?_
   refine V.region ?_
   refine V.run T_ok 1 rfl ?_
   refine V.loadO T_ok Fk2 rfl rfl rfl rfl rfl ?_
   refine V.run T_ok 2 rfl ?_
   refine V.nil ?_
   refine V.tN ?_
   refine V.condT rfl (fun h4 => ?_) (fun h4 => ?_)
   ·
    try replace h4 := V.dec h4
    try simp only [V.mk0, V.mk1, V.mk2, V.mk3] at h4
    refine V.seq ?_
    refine V.region ?_
    refine V.run T_ok 1 rfl ?_
    refine V.loadO T_ok Fk2 rfl rfl rfl rfl rfl ?_
    refine V.addN rfl rfl rfl rfl rfl (by first | omega | (simp only [List.length_take, List.length_drop, List.length_append, List.length_cons, List.length_nil, List.length_replicate, List.length_set, V.length_data, V.S_size]; omega)) (by first | omega | (simp only [List.length_take, List.length_drop, List.length_append, List.length_cons, List.length_nil, List.length_replicate, List.length_set, V.length_data, V.S_size]; omega)) ?_
    refine V.mkStruct T_ok zero23 rfl rfl rfl rfl rfl ?_
    refine V.storeO Fk9 rfl rfl rfl rfl sz23 rfl rfl rfl rfl ?_
    rintro w40 G41 z43 Fs42
    clear Fk9
    have z44 := V.Fr.size G41
    first | replace Fk2 := Fk2.mv1 G41 (by omega) | clear Fk2 | skip
    first | replace Fk16 := Fk16.mv1 G41 (by omega) | clear Fk16 | skip
    replace HG := HG.n1 G41
    clear G41
    have Fk9 := Fs42; clear Fs42
    simp only [V.spliceL, V.cellsL] at Fk9
    refine V.run T_ok 1 rfl ?_
    refine V.nil ?_
    refine V.tN ?_
    refine V.ret ?_
    refine V.bR ?_
    refine V.tR ?_
    refine V.done2 rfl (V.resV_cell T_ok Fk9 rfl rfl) (V.resV_tmp rfl) ?_
    rw [show (((nextSt a b).1).1 : Int) = a + 1 by (unfold nextSt stR; grind)]
    rw [show (((nextSt a b).1).2 : Int) = 0 by (unfold nextSt stR; grind)]
    rw [show ((nextSt a b).2 : Int) = 0 by (unfold nextSt stR; grind)]
    exact ⟨(by first | rfl | simp only [List.length_set]), HG⟩
   ·
    try replace h4 := V.dec h4
    try simp only [V.mk0, V.mk1, V.mk2, V.mk3] at h4
    refine V.skip ?_
    refine V.bN ?_
    refine V.tN ?_
    refine V.seq ?_
    refine V.region ?_
    refine V.run T_ok 1 rfl ?_
    refine V.loadO T_ok Fk2 rfl rfl rfl rfl rfl ?_
    refine V.addN rfl rfl rfl rfl rfl (by first | omega | (simp only [List.length_take, List.length_drop, List.length_append, List.length_cons, List.length_nil, List.length_replicate, List.length_set, V.length_data, V.S_size]; omega)) (by first | omega | (simp only [List.length_take, List.length_drop, List.length_append, List.length_cons, List.length_nil, List.length_replicate, List.length_set, V.length_data, V.S_size]; omega)) ?_
    refine V.run T_ok 1 rfl ?_
    refine V.storeO Fk2 rfl rfl rfl rfl sz3 rfl rfl rfl rfl ?_
    rintro w45 G46 z48 Fs47
    clear Fk2
    have z49 := V.Fr.size G46
    first | replace Fk9 := Fk9.mv1 G46 (by omega) | clear Fk9 | skip
    first | replace Fk16 := Fk16.mv1 G46 (by omega) | clear Fk16 | skip
    replace HG := HG.n1 G46
    clear G46
    have Fk2 := Fs47; clear Fs47
    simp only [V.spliceL, V.cellsL] at Fk2
    refine V.nil ?_
    refine V.tN ?_
    refine V.seq ?_
    refine V.region ?_
    refine V.loadO T_ok Fk2 rfl rfl rfl rfl rfl ?_
    refine V.storeO Fk9 rfl rfl rfl rfl sz23 rfl rfl rfl rfl ?_
    rintro w50 G51 z53 Fs52
    clear Fk9
    have z54 := V.Fr.size G51
    first | replace Fk16 := Fk16.mv1 G51 (by omega) | clear Fk16 | skip
    first | replace Fk2 := Fk2.mv1 G51 (by omega) | clear Fk2 | skip
    replace HG := HG.n1 G51
    clear G51
    have Fk9 := Fs52; clear Fs52
    simp only [V.spliceL, V.cellsL] at Fk9
    refine V.run T_ok 1 rfl ?_
    refine V.nil ?_
    refine V.tN ?_
    refine V.ret ?_
    refine V.done2 rfl (V.resV_cell T_ok Fk9 rfl rfl) (V.resV_tmp rfl) ?_
    rw [show (((nextSt a b).1).1 : Int) = a by (unfold nextSt stR; grind)]
    rw [show (((nextSt a b).1).2 : Int) = b + 1 by (unfold nextSt stR; grind)]
    rw [show ((nextSt a b).2 : Int) = 0 by (unfold nextSt stR; grind)]
    exact ⟨(by first | rfl | simp only [List.length_set]), HG⟩

set_option maxHeartbeats 400000 in
set_option maxRecDepth 10000 in
theorem plus_spec {w : World}  {a : Int} {b : Int} {t : Int}  :
    Meets Tryd.prog 12 [.agg #[.int .i64 a, .int .i64 b], .int .i64 t] w fun r w' => r = .agg #[.int .i64 (plusSt a t), .int .i64 65535] ∧ Gr w w' := by
 have HG := V.Fr.refl [] w
 refine V.enter (n := 18) Tryd.func12 rfl rfl (by decide) rfl ?_
 refine V.seq ?_
 refine V.region ?_
 refine V.box rfl rfl rfl rfl ?_
 rintro k1 w3 s5 s6 G4 Fk2
 have z7 := V.Fr.size G4
 replace HG := HG.grow G4
 clear G4
 try simp only [V.cellsL, V.spliceL] at Fk2
 refine V.alloc zero23 rfl rfl rfl ?_
 rintro k8 w10 s12 s13 G11 Fk9
 have z14 := V.Fr.size G11
 try replace Fk2 := Fk2.gr G11
 replace HG := HG.grow G11
 clear G11
 try simp only [V.cellsL, V.spliceL] at Fk9
 refine V.nil ?_
 refine V.tN ?_
 refine V.seq ?_
 refine V.region ?_
 refine V.run T_ok 1 rfl ?_
 refine V.loadO T_ok Fk2 rfl rfl rfl rfl rfl ?_
 refine V.run T_ok 5 rfl ?_
 refine V.addN rfl rfl rfl rfl rfl (by first | omega | (simp only [List.length_take, List.length_drop, List.length_append, List.length_cons, List.length_nil, List.length_replicate, List.length_set, V.length_data, V.S_size]; omega)) (by first | omega | (simp only [List.length_take, List.length_drop, List.length_append, List.length_cons, List.length_nil, List.length_replicate, List.length_set, V.length_data, V.S_size]; omega)) ?_
 refine V.run T_ok 1 rfl ?_
 refine V.nil ?_
 refine V.tN ?_
 refine V.seq ?_
 refine V.region ?_
 refine V.run T_ok 3 rfl ?_
 refine V.mkStruct T_ok zero23 rfl rfl rfl rfl rfl ?_
 refine V.storeO Fk9 rfl rfl rfl rfl sz23 rfl rfl rfl rfl ?_
 rintro w15 G16 z18 Fs17
 clear Fk9
 have z19 := V.Fr.size G16
 first | replace Fk2 := Fk2.mv1 G16 (by omega) | clear Fk2 | skip
 replace HG := HG.n1 G16
 clear G16
 have Fk9 := Fs17; clear Fs17
 simp only [V.spliceL, V.cellsL] at Fk9
 refine V.nil ?_
 refine V.tN ?_
 refine V.ret ?_
 refine V.done1 rfl (V.resV_cell T_ok Fk9 rfl rfl) ?_
 exact ⟨(by first | rfl | simp only [List.length_set]), HG⟩

set_option maxHeartbeats 400000 in
set_option maxRecDepth 10000 in
theorem rright_spec {w : World}  {a : Int} {b : Int}  :
    Meets Tryd.prog 19 [.agg #[.int .i64 a, .int .i64 b]] w fun r w' => r = .bool (decide (0 ≤ a ∧ a ≤ 1099511627776 ∧ 0 ≤ b ∧ b ≤ 65535)) ∧ Gr w w' := by
 have HG := V.Fr.refl [] w
 refine V.enter (n := 21) Tryd.func19 rfl rfl (by decide) rfl ?_
 refine V.seq ?_
 refine V.region ?_
 refine V.box rfl rfl rfl rfl ?_
 rintro k1 w3 s5 s6 G4 Fk2
 have z7 := V.Fr.size G4
 replace HG := HG.grow G4
 clear G4
 try simp only [V.cellsL, V.spliceL] at Fk2
 refine V.run T_ok 1 rfl ?_
 refine V.nil ?_
 refine V.tN ?_
 refine V.seq ?_
 refine V.region ?_
 refine V.run T_ok 1 rfl ?_
 refine V.loadO T_ok Fk2 rfl rfl rfl rfl rfl ?_
 refine V.run T_ok 2 rfl ?_
 refine V.split (j := 3) (t := 6) rfl rfl (fun g1_3 => ?_) (fun g1_3 => ?_)
 ·
  try replace g1_3 := V.dec g1_3
  try simp only [V.mk0, V.mk1, V.mk2, V.mk3] at g1_3
  refine V.run T_ok 1 rfl ?_
  refine V.yes rfl rfl rfl ?_
  refine V.loadO T_ok Fk2 rfl rfl rfl rfl rfl ?_
  refine V.run T_ok 3 rfl ?_
  refine V.split (j := 8) (t := 11) rfl rfl (fun g1_8 => ?_) (fun g1_8 => ?_)
  ·
   try replace g1_8 := V.dec g1_8
   try simp only [V.mk0, V.mk1, V.mk2, V.mk3] at g1_8
   refine V.run T_ok 1 rfl ?_
   refine V.yes rfl rfl rfl ?_
   refine V.loadO T_ok Fk2 rfl rfl rfl rfl rfl ?_
   refine V.run T_ok 3 rfl ?_
   refine V.split (j := 13) (t := 16) rfl rfl (fun g1_13 => ?_) (fun g1_13 => ?_)
   ·
    try replace g1_13 := V.dec g1_13
    try simp only [V.mk0, V.mk1, V.mk2, V.mk3] at g1_13
    refine V.run T_ok 1 rfl ?_
    refine V.yes rfl rfl rfl ?_
    refine V.loadO T_ok Fk2 rfl rfl rfl rfl rfl ?_
    refine V.run T_ok 3 rfl ?_
    refine V.nil ?_
    refine V.tN ?_
    refine V.ret ?_
    refine V.done rfl ?_
    exact ⟨(congrArg Value.bool (by first | rfl | (grind))), HG⟩
   ·
    try replace g1_13 := V.dec g1_13
    try simp only [V.mk0, V.mk1, V.mk2, V.mk3] at g1_13
    refine V.run T_ok 5 rfl ?_
    refine V.nil ?_
    refine V.tN ?_
    refine V.ret ?_
    refine V.done rfl ?_
    exact ⟨(congrArg Value.bool (by first | rfl | (grind))), HG⟩
  ·
   try replace g1_8 := V.dec g1_8
   try simp only [V.mk0, V.mk1, V.mk2, V.mk3] at g1_8
   refine V.run T_ok 10 rfl ?_
   refine V.nil ?_
   refine V.tN ?_
   refine V.ret ?_
   refine V.done rfl ?_
   exact ⟨(congrArg Value.bool (by first | rfl | (grind))), HG⟩
 ·
  try replace g1_3 := V.dec g1_3
  try simp only [V.mk0, V.mk1, V.mk2, V.mk3] at g1_3
  refine V.run T_ok 15 rfl ?_
  refine V.nil ?_
  refine V.tN ?_
  refine V.ret ?_
  refine V.done rfl ?_
  exact ⟨(congrArg Value.bool (by first | rfl | (grind))), HG⟩

set_option maxHeartbeats 400000 in
set_option maxRecDepth 10000 in
theorem rless_spec {w : World}  {a : Int} {b : Int} {c : Int} {d : Int}  :
    Meets Tryd.prog 17 [.agg #[.int .i64 a, .int .i64 b], .agg #[.int .i64 c, .int .i64 d]] w fun r w' => r = .bool (decide (a < c ∨ a = c ∧ b < d)) ∧ Gr w w' := by
 have HG := V.Fr.refl [] w
 refine V.enter (n := 24) Tryd.func17 rfl rfl (by decide) rfl ?_
 refine V.seq ?_
 refine V.region ?_
 refine V.box rfl rfl rfl rfl ?_
 rintro k1 w3 s5 s6 G4 Fk2
 have z7 := V.Fr.size G4
 replace HG := HG.grow G4
 clear G4
 try simp only [V.cellsL, V.spliceL] at Fk2
 refine V.box rfl rfl rfl rfl ?_
 rintro k8 w10 s12 s13 G11 Fk9
 have z14 := V.Fr.size G11
 try replace Fk2 := Fk2.gr G11
 replace HG := HG.grow G11
 clear G11
 try simp only [V.cellsL, V.spliceL] at Fk9
 refine V.run T_ok 1 rfl ?_
 refine V.nil ?_
 refine V.tN ?_
 refine V.seq ?_
 refine V.region ?_
 refine V.run T_ok 1 rfl ?_
 refine V.loadO T_ok Fk2 rfl rfl rfl rfl rfl ?_
 refine V.run T_ok 1 rfl ?_
 refine V.loadO T_ok Fk9 rfl rfl rfl rfl rfl ?_
 refine V.run T_ok 2 rfl ?_
 refine V.split (j := 5) (t := 10) rfl rfl (fun g1_5 => ?_) (fun g1_5 => ?_)
 ·
  try replace g1_5 := V.dec g1_5
  try simp only [V.mk0, V.mk1, V.mk2, V.mk3] at g1_5
  refine V.run T_ok 14 rfl ?_
  refine V.nil ?_
  refine V.tN ?_
  refine V.ret ?_
  refine V.done rfl ?_
  exact ⟨(congrArg Value.bool (by first | rfl | (grind))), HG⟩
 ·
  try replace g1_5 := V.dec g1_5
  try simp only [V.mk0, V.mk1, V.mk2, V.mk3] at g1_5
  refine V.run T_ok 1 rfl ?_
  refine V.yes rfl rfl rfl ?_
  refine V.loadO T_ok Fk2 rfl rfl rfl rfl rfl ?_
  refine V.run T_ok 1 rfl ?_
  refine V.yes rfl rfl rfl ?_
  refine V.loadO T_ok Fk9 rfl rfl rfl rfl rfl ?_
  refine V.run T_ok 2 rfl ?_
  refine V.split (j := 11) (t := 16) rfl rfl (fun g1_11 => ?_) (fun g1_11 => ?_)
  ·
   try replace g1_11 := V.dec g1_11
   try simp only [V.mk0, V.mk1, V.mk2, V.mk3] at g1_11
   refine V.run T_ok 1 rfl ?_
   refine V.yes rfl rfl rfl ?_
   refine V.loadO T_ok Fk2 rfl rfl rfl rfl rfl ?_
   refine V.run T_ok 1 rfl ?_
   refine V.yes rfl rfl rfl ?_
   refine V.loadO T_ok Fk9 rfl rfl rfl rfl rfl ?_
   refine V.run T_ok 4 rfl ?_
   refine V.nil ?_
   refine V.tN ?_
   refine V.ret ?_
   refine V.done rfl ?_
   exact ⟨(congrArg Value.bool (by first | rfl | (grind))), HG⟩
  ·
   try replace g1_11 := V.dec g1_11
   try simp only [V.mk0, V.mk1, V.mk2, V.mk3] at g1_11
   refine V.run T_ok 8 rfl ?_
   refine V.nil ?_
   refine V.tN ?_
   refine V.ret ?_
   refine V.done rfl ?_
   exact ⟨(congrArg Value.bool (by first | rfl | (grind))), HG⟩

set_option maxHeartbeats 400000 in
set_option maxRecDepth 10000 in
theorem rmax_spec {w : World}  {a : Int} {b : Int} {c : Int} {d : Int}  :
    Meets Tryd.prog 20 [.agg #[.int .i64 a, .int .i64 b], .agg #[.int .i64 c, .int .i64 d]] w fun r w' => r = .agg #[.int .i64 ((maxSt a b c d).1), .int .i64 ((maxSt a b c d).2)] ∧ Gr w w' := by
 have HG := V.Fr.refl [] w
 refine V.enter (n := 12) Tryd.func20 rfl rfl (by decide) rfl ?_
 refine V.seq ?_
 refine V.region ?_
 refine V.box rfl rfl rfl rfl ?_
 rintro k1 w3 s5 s6 G4 Fk2
 have z7 := V.Fr.size G4
 replace HG := HG.grow G4
 clear G4
 try simp only [V.cellsL, V.spliceL] at Fk2
 refine V.box rfl rfl rfl rfl ?_
 rintro k8 w10 s12 s13 G11 Fk9
 have z14 := V.Fr.size G11
 try replace Fk2 := Fk2.gr G11
 replace HG := HG.grow G11
 clear G11
 try simp only [V.cellsL, V.spliceL] at Fk9
 refine V.alloc zero23 rfl rfl rfl ?_
 rintro k15 w17 s19 s20 G18 Fk16
 have z21 := V.Fr.size G18
 try replace Fk2 := Fk2.gr G18
 try replace Fk9 := Fk9.gr G18
 replace HG := HG.grow G18
 clear G18
 try simp only [V.cellsL, V.spliceL] at Fk16
 refine V.nil ?_
 refine V.tN ?_
 refine V.seq ?_
 refine V.region ?_
 refine V.loadO T_ok Fk2 rfl rfl rfl rfl rfl ?_
 refine V.loadO T_ok Fk9 rfl rfl rfl rfl rfl ?_
 refine V.call (rless_spec (a := a) (b := b) (c := c) (d := d)) rfl rfl rfl ?_
 rintro _ w22 ⟨rfl, G23⟩
 have z24 := V.Fr.size G23
 try replace Fk2 := Fk2.gr G23
 try replace Fk9 := Fk9.gr G23
 try replace Fk16 := Fk16.gr G23
 replace HG := HG.grow G23
 clear G23
 refine V.run T_ok 1 rfl ?_
 refine V.nil ?_
 refine V.tN ?_
 refine V.seq ?_
 refine V.seq ?_
 refine V.region ?_
 refine V.run T_ok 1 rfl ?_
 refine V.nil ?_
 refine V.tN ?_
 refine V.condT rfl (fun h2 => ?_) (fun h2 => ?_)
 ·
  try replace h2 := V.dec h2
  try simp only [V.mk0, V.mk1, V.mk2, V.mk3] at h2
  refine V.seq ?_
  refine V.region ?_
  refine V.loadO T_ok Fk9 rfl rfl rfl rfl rfl ?_
  refine V.storeO Fk16 rfl rfl rfl rfl sz23 rfl rfl rfl rfl ?_
  rintro w25 G26 z28 Fs27
  clear Fk16
  have z29 := V.Fr.size G26
  first | replace Fk2 := Fk2.mv1 G26 (by omega) | clear Fk2 | skip
  first | replace Fk9 := Fk9.mv1 G26 (by omega) | clear Fk9 | skip
  replace HG := HG.n1 G26
  clear G26
  have Fk16 := Fs27; clear Fs27
  simp only [V.spliceL, V.cellsL] at Fk16
  refine V.nil ?_
  refine V.tN ?_
  refine V.ret ?_
  refine V.tR ?_
  refine V.done1 rfl (V.resV_cell T_ok Fk16 rfl rfl) ?_
  rw [show ((maxSt a b c d).1 : Int) = c by (unfold maxSt; grind)]
  rw [show ((maxSt a b c d).2 : Int) = d by (unfold maxSt; grind)]
  exact ⟨(by first | rfl | simp only [List.length_set]), HG⟩
 ·
  try replace h2 := V.dec h2
  try simp only [V.mk0, V.mk1, V.mk2, V.mk3] at h2
  refine V.skip ?_
  refine V.tN ?_
  refine V.seq ?_
  refine V.region ?_
  refine V.loadO T_ok Fk2 rfl rfl rfl rfl rfl ?_
  refine V.storeO Fk16 rfl rfl rfl rfl sz23 rfl rfl rfl rfl ?_
  rintro w30 G31 z33 Fs32
  clear Fk16
  have z34 := V.Fr.size G31
  first | replace Fk2 := Fk2.mv1 G31 (by omega) | clear Fk2 | skip
  first | replace Fk9 := Fk9.mv1 G31 (by omega) | clear Fk9 | skip
  replace HG := HG.n1 G31
  clear G31
  have Fk16 := Fs32; clear Fs32
  simp only [V.spliceL, V.cellsL] at Fk16
  refine V.nil ?_
  refine V.tN ?_
  refine V.ret ?_
  refine V.done1 rfl (V.resV_cell T_ok Fk16 rfl rfl) ?_
  rw [show ((maxSt a b c d).1 : Int) = a by (unfold maxSt; grind)]
  rw [show ((maxSt a b c d).2 : Int) = b by (unfold maxSt; grind)]
  exact ⟨(by first | rfl | simp only [List.length_set]), HG⟩

set_option maxHeartbeats 400000 in
set_option maxRecDepth 10000 in
theorem rsnext_spec {w : World}  {a : Int} {b : Int}  :
    Meets Tryd.prog 18 [.agg #[.int .i64 a, .int .i64 b]] w fun r w' => r = .tuple #[.agg #[.int .i64 (((nextSt a b).1).1), .int .i64 (((nextSt a b).1).2)], .int .i64 ((nextSt a b).2)] ∧ Gr w w' := by
 have HG := V.Fr.refl [] w
 refine V.enter (n := 33) Tryd.func18 rfl rfl (by decide) rfl ?_
 refine V.seq ?_
 refine V.region ?_
 refine V.box rfl rfl rfl rfl ?_
 rintro k1 w3 s5 s6 G4 Fk2
 have z7 := V.Fr.size G4
 replace HG := HG.grow G4
 clear G4
 try simp only [V.cellsL, V.spliceL] at Fk2
 refine V.alloc zero23 rfl rfl rfl ?_
 rintro k8 w10 s12 s13 G11 Fk9
 have z14 := V.Fr.size G11
 try replace Fk2 := Fk2.gr G11
 replace HG := HG.grow G11
 clear G11
 try simp only [V.cellsL, V.spliceL] at Fk9
 refine V.run T_ok 1 rfl ?_
 refine V.nil ?_
 refine V.tN ?_
 refine V.seq ?_
 refine V.region ?_
 refine V.loadO T_ok Fk2 rfl rfl rfl rfl rfl ?_
 refine V.call (rright_spec (a := a) (b := b)) rfl rfl rfl ?_
 rintro _ w15 ⟨rfl, G16⟩
 have z17 := V.Fr.size G16
 try replace Fk2 := Fk2.gr G16
 try replace Fk9 := Fk9.gr G16
 replace HG := HG.grow G16
 clear G16
 refine V.run T_ok 1 rfl ?_
 refine V.nil ?_
 refine V.tN ?_
 refine V.seq ?_
 refine V.seq ?_
 refine V.region ?_
 refine V.run T_ok 3 rfl ?_
 refine V.split (j := 2) (t := 9) rfl rfl (fun g2_2 => ?_) (fun g2_2 => ?_)
 ·
  try replace g2_2 := V.dec g2_2
  try simp only [V.mk0, V.mk1, V.mk2, V.mk3] at g2_2
  refine V.run T_ok 9 rfl ?_
  refine V.nil ?_
  refine V.tN ?_
  refine V.condY rfl rfl ?_
  refine V.seq ?_
  refine V.region ?_
  refine V.mkStruct T_ok zero23 rfl rfl rfl rfl rfl ?_
  refine V.storeO Fk9 rfl rfl rfl rfl sz23 rfl rfl rfl rfl ?_
  rintro w18 G19 z21 Fs20
  clear Fk9
  have z22 := V.Fr.size G19
  first | replace Fk2 := Fk2.mv1 G19 (by omega) | clear Fk2 | skip
  replace HG := HG.n1 G19
  clear G19
  have Fk9 := Fs20; clear Fs20
  simp only [V.spliceL, V.cellsL] at Fk9
  refine V.run T_ok 1 rfl ?_
  refine V.nil ?_
  refine V.tN ?_
  refine V.ret ?_
  refine V.tR ?_
  refine V.done2 rfl (V.resV_cell T_ok Fk9 rfl rfl) (V.resV_tmp rfl) ?_
  rw [show (((nextSt a b).1).1 : Int) = 0 by (unfold nextSt stR; grind)]
  rw [show (((nextSt a b).1).2 : Int) = 0 by (unfold nextSt stR; grind)]
  rw [show ((nextSt a b).2 : Int) = 31 by (unfold nextSt stR; grind)]
  exact ⟨(by first | rfl | simp only [List.length_set]), HG⟩
 ·
  try replace g2_2 := V.dec g2_2
  try simp only [V.mk0, V.mk1, V.mk2, V.mk3] at g2_2
  refine V.run T_ok 1 rfl ?_
  refine V.yes rfl rfl rfl ?_
  refine V.loadO T_ok Fk2 rfl rfl rfl rfl rfl ?_
  refine V.run T_ok 2 rfl ?_
  refine V.split (j := 6) (t := 13) rfl rfl (fun g2_6 => ?_) (fun g2_6 => ?_)
  ·
   try replace g2_6 := V.dec g2_6
   try simp only [V.mk0, V.mk1, V.mk2, V.mk3] at g2_6
   refine V.run T_ok 1 rfl ?_
   refine V.yes rfl rfl rfl ?_
   refine V.loadO T_ok Fk2 rfl rfl rfl rfl rfl ?_
   refine V.run T_ok 3 rfl ?_
   refine V.nil ?_
   refine V.tN ?_
   refine V.condT rfl (fun h2 => ?_) (fun h2 => ?_)
   ·
    try replace h2 := V.dec h2
    try simp only [V.mk0, V.mk1, V.mk2, V.mk3] at h2
    refine V.seq ?_
    refine V.region ?_
    refine V.mkStruct T_ok zero23 rfl rfl rfl rfl rfl ?_
    refine V.storeO Fk9 rfl rfl rfl rfl sz23 rfl rfl rfl rfl ?_
    rintro w23 G24 z26 Fs25
    clear Fk9
    have z27 := V.Fr.size G24
    first | replace Fk2 := Fk2.mv1 G24 (by omega) | clear Fk2 | skip
    replace HG := HG.n1 G24
    clear G24
    have Fk9 := Fs25; clear Fs25
    simp only [V.spliceL, V.cellsL] at Fk9
    refine V.run T_ok 1 rfl ?_
    refine V.nil ?_
    refine V.tN ?_
    refine V.ret ?_
    refine V.tR ?_
    refine V.done2 rfl (V.resV_cell T_ok Fk9 rfl rfl) (V.resV_tmp rfl) ?_
    rw [show (((nextSt a b).1).1 : Int) = 0 by (unfold nextSt stR; grind)]
    rw [show (((nextSt a b).1).2 : Int) = 0 by (unfold nextSt stR; grind)]
    rw [show ((nextSt a b).2 : Int) = 31 by (unfold nextSt stR; grind)]
    exact ⟨(by first | rfl | simp only [List.length_set]), HG⟩
   ·
    try replace h2 := V.dec h2
    try simp only [V.mk0, V.mk1, V.mk2, V.mk3] at h2
    refine V.skip ?_
    refine V.tN ?_
    refine V.seq ?_
    refine V.seq ?_
    refine V.region ?_
    refine V.run T_ok 1 rfl ?_
    refine V.loadO T_ok Fk2 rfl rfl rfl rfl rfl ?_
    refine V.run T_ok 1 rfl ?_
    refine V.nil ?_
    refine V.tN ?_
    refine V.condT rfl (fun h4 => ?_) (fun h4 => ?_)
    ·
     try replace h4 := V.dec h4
     try simp only [V.mk0, V.mk1, V.mk2, V.mk3] at h4
     refine V.seq ?_
     refine V.region ?_
     refine V.run T_ok 1 rfl ?_
     refine V.loadO T_ok Fk2 rfl rfl rfl rfl rfl ?_
     refine V.addN rfl rfl rfl rfl rfl (by first | omega | (simp only [List.length_take, List.length_drop, List.length_append, List.length_cons, List.length_nil, List.length_replicate, List.length_set, V.length_data, V.S_size]; omega)) (by first | omega | (simp only [List.length_take, List.length_drop, List.length_append, List.length_cons, List.length_nil, List.length_replicate, List.length_set, V.length_data, V.S_size]; omega)) ?_
     refine V.mkStruct T_ok zero23 rfl rfl rfl rfl rfl ?_
     refine V.storeO Fk9 rfl rfl rfl rfl sz23 rfl rfl rfl rfl ?_
     rintro w28 G29 z31 Fs30
     clear Fk9
     have z32 := V.Fr.size G29
     first | replace Fk2 := Fk2.mv1 G29 (by omega) | clear Fk2 | skip
     replace HG := HG.n1 G29
     clear G29
     have Fk9 := Fs30; clear Fs30
     simp only [V.spliceL, V.cellsL] at Fk9
     refine V.run T_ok 1 rfl ?_
     refine V.nil ?_
     refine V.tN ?_
     refine V.ret ?_
     refine V.tR ?_
     refine V.done2 rfl (V.resV_cell T_ok Fk9 rfl rfl) (V.resV_tmp rfl) ?_
     rw [show (((nextSt a b).1).1 : Int) = a + 1 by (unfold nextSt stR; grind)]
     rw [show (((nextSt a b).1).2 : Int) = 0 by (unfold nextSt stR; grind)]
     rw [show ((nextSt a b).2 : Int) = 0 by (unfold nextSt stR; grind)]
     exact ⟨(by first | rfl | simp only [List.length_set]), HG⟩
    ·
     try replace h4 := V.dec h4
     try simp only [V.mk0, V.mk1, V.mk2, V.mk3] at h4
     refine V.skip ?_
     refine V.tN ?_
     refine V.seq ?_
     refine V.region ?_
     refine V.run T_ok 1 rfl ?_
     refine V.loadO T_ok Fk2 rfl rfl rfl rfl rfl ?_
     refine V.run T_ok 1 rfl ?_
     refine V.loadO T_ok Fk2 rfl rfl rfl rfl rfl ?_
     refine V.addN rfl rfl rfl rfl rfl (by first | omega | (simp only [List.length_take, List.length_drop, List.length_append, List.length_cons, List.length_nil, List.length_replicate, List.length_set, V.length_data, V.S_size]; omega)) (by first | omega | (simp only [List.length_take, List.length_drop, List.length_append, List.length_cons, List.length_nil, List.length_replicate, List.length_set, V.length_data, V.S_size]; omega)) ?_
     refine V.mkStruct T_ok zero23 rfl rfl rfl rfl rfl ?_
     refine V.storeO Fk9 rfl rfl rfl rfl sz23 rfl rfl rfl rfl ?_
     rintro w33 G34 z36 Fs35
     clear Fk9
     have z37 := V.Fr.size G34
     first | replace Fk2 := Fk2.mv1 G34 (by omega) | clear Fk2 | skip
     replace HG := HG.n1 G34
     clear G34
     have Fk9 := Fs35; clear Fs35
     simp only [V.spliceL, V.cellsL] at Fk9
     refine V.run T_ok 1 rfl ?_
     refine V.nil ?_
     refine V.tN ?_
     refine V.ret ?_
     refine V.done2 rfl (V.resV_cell T_ok Fk9 rfl rfl) (V.resV_tmp rfl) ?_
     rw [show (((nextSt a b).1).1 : Int) = a by (unfold nextSt stR; grind)]
     rw [show (((nextSt a b).1).2 : Int) = b + 1 by (unfold nextSt stR; grind)]
     rw [show ((nextSt a b).2 : Int) = 0 by (unfold nextSt stR; grind)]
     exact ⟨(by first | rfl | simp only [List.length_set]), HG⟩
  ·
   try replace g2_6 := V.dec g2_6
   try simp only [V.mk0, V.mk1, V.mk2, V.mk3] at g2_6
   refine V.run T_ok 5 rfl ?_
   refine V.nil ?_
   refine V.tN ?_
   refine V.condN rfl rfl ?_
   refine V.skip ?_
   refine V.tN ?_
   refine V.seq ?_
   refine V.seq ?_
   refine V.region ?_
   refine V.run T_ok 1 rfl ?_
   refine V.loadO T_ok Fk2 rfl rfl rfl rfl rfl ?_
   refine V.run T_ok 1 rfl ?_
   refine V.nil ?_
   refine V.tN ?_
   refine V.condT rfl (fun h4 => ?_) (fun h4 => ?_)
   ·
    try replace h4 := V.dec h4
    try simp only [V.mk0, V.mk1, V.mk2, V.mk3] at h4
    refine V.seq ?_
    refine V.region ?_
    refine V.run T_ok 1 rfl ?_
    refine V.loadO T_ok Fk2 rfl rfl rfl rfl rfl ?_
    refine V.addN rfl rfl rfl rfl rfl (by first | omega | (simp only [List.length_take, List.length_drop, List.length_append, List.length_cons, List.length_nil, List.length_replicate, List.length_set, V.length_data, V.S_size]; omega)) (by first | omega | (simp only [List.length_take, List.length_drop, List.length_append, List.length_cons, List.length_nil, List.length_replicate, List.length_set, V.length_data, V.S_size]; omega)) ?_
    refine V.mkStruct T_ok zero23 rfl rfl rfl rfl rfl ?_
    refine V.storeO Fk9 rfl rfl rfl rfl sz23 rfl rfl rfl rfl ?_
    rintro w38 G39 z41 Fs40
    clear Fk9
    have z42 := V.Fr.size G39
    first | replace Fk2 := Fk2.mv1 G39 (by omega) | clear Fk2 | skip
    replace HG := HG.n1 G39
    clear G39
    have Fk9 := Fs40; clear Fs40
    simp only [V.spliceL, V.cellsL] at Fk9
    refine V.run T_ok 1 rfl ?_
    refine V.nil ?_
    refine V.tN ?_
    refine V.ret ?_
    refine V.tR ?_
    refine V.done2 rfl (V.resV_cell T_ok Fk9 rfl rfl) (V.resV_tmp rfl) ?_
    rw [show (((nextSt a b).1).1 : Int) = a + 1 by (unfold nextSt stR; grind)]
    rw [show (((nextSt a b).1).2 : Int) = 0 by (unfold nextSt stR; grind)]
    rw [show ((nextSt a b).2 : Int) = 0 by (unfold nextSt stR; grind)]
    exact ⟨(by first | rfl | simp only [List.length_set]), HG⟩
   ·
    try replace h4 := V.dec h4
    try simp only [V.mk0, V.mk1, V.mk2, V.mk3] at h4
    refine V.skip ?_
    refine V.tN ?_
    refine V.seq ?_
    refine V.region ?_
    refine V.run T_ok 1 rfl ?_
    refine V.loadO T_ok Fk2 rfl rfl rfl rfl rfl ?_
    refine V.run T_ok 1 rfl ?_
    refine V.loadO T_ok Fk2 rfl rfl rfl rfl rfl ?_
    refine V.addN rfl rfl rfl rfl rfl (by first | omega | (simp only [List.length_take, List.length_drop, List.length_append, List.length_cons, List.length_nil, List.length_replicate, List.length_set, V.length_data, V.S_size]; omega)) (by first | omega | (simp only [List.length_take, List.length_drop, List.length_append, List.length_cons, List.length_nil, List.length_replicate, List.length_set, V.length_data, V.S_size]; omega)) ?_
    refine V.mkStruct T_ok zero23 rfl rfl rfl rfl rfl ?_
    refine V.storeO Fk9 rfl rfl rfl rfl sz23 rfl rfl rfl rfl ?_
    rintro w43 G44 z46 Fs45
    clear Fk9
    have z47 := V.Fr.size G44
    first | replace Fk2 := Fk2.mv1 G44 (by omega) | clear Fk2 | skip
    replace HG := HG.n1 G44
    clear G44
    have Fk9 := Fs45; clear Fs45
    simp only [V.spliceL, V.cellsL] at Fk9
    refine V.run T_ok 1 rfl ?_
    refine V.nil ?_
    refine V.tN ?_
    refine V.ret ?_
    refine V.done2 rfl (V.resV_cell T_ok Fk9 rfl rfl) (V.resV_tmp rfl) ?_
    rw [show (((nextSt a b).1).1 : Int) = a by (unfold nextSt stR; grind)]
    rw [show (((nextSt a b).1).2 : Int) = b + 1 by (unfold nextSt stR; grind)]
    rw [show ((nextSt a b).2 : Int) = 0 by (unfold nextSt stR; grind)]
    exact ⟨(by first | rfl | simp only [List.length_set]), HG⟩

set_option maxHeartbeats 400000 in
set_option maxRecDepth 10000 in
theorem rplus_spec {w : World}  {a : Int} {b : Int} {t : Int}  :
    Meets Tryd.prog 21 [.agg #[.int .i64 a, .int .i64 b], .int .i64 t] w fun r w' => r = .agg #[.int .i64 (plusSt a t), .int .i64 65535] ∧ Gr w w' := by
 have HG := V.Fr.refl [] w
 refine V.enter (n := 18) Tryd.func21 rfl rfl (by decide) rfl ?_
 refine V.seq ?_
 refine V.region ?_
 refine V.box rfl rfl rfl rfl ?_
 rintro k1 w3 s5 s6 G4 Fk2
 have z7 := V.Fr.size G4
 replace HG := HG.grow G4
 clear G4
 try simp only [V.cellsL, V.spliceL] at Fk2
 refine V.alloc zero23 rfl rfl rfl ?_
 rintro k8 w10 s12 s13 G11 Fk9
 have z14 := V.Fr.size G11
 try replace Fk2 := Fk2.gr G11
 replace HG := HG.grow G11
 clear G11
 try simp only [V.cellsL, V.spliceL] at Fk9
 refine V.nil ?_
 refine V.tN ?_
 refine V.seq ?_
 refine V.region ?_
 refine V.run T_ok 1 rfl ?_
 refine V.loadO T_ok Fk2 rfl rfl rfl rfl rfl ?_
 refine V.run T_ok 5 rfl ?_
 refine V.addN rfl rfl rfl rfl rfl (by first | omega | (simp only [List.length_take, List.length_drop, List.length_append, List.length_cons, List.length_nil, List.length_replicate, List.length_set, V.length_data, V.S_size]; omega)) (by first | omega | (simp only [List.length_take, List.length_drop, List.length_append, List.length_cons, List.length_nil, List.length_replicate, List.length_set, V.length_data, V.S_size]; omega)) ?_
 refine V.run T_ok 1 rfl ?_
 refine V.nil ?_
 refine V.tN ?_
 refine V.seq ?_
 refine V.region ?_
 refine V.run T_ok 3 rfl ?_
 refine V.mkStruct T_ok zero23 rfl rfl rfl rfl rfl ?_
 refine V.storeO Fk9 rfl rfl rfl rfl sz23 rfl rfl rfl rfl ?_
 rintro w15 G16 z18 Fs17
 clear Fk9
 have z19 := V.Fr.size G16
 first | replace Fk2 := Fk2.mv1 G16 (by omega) | clear Fk2 | skip
 replace HG := HG.n1 G16
 clear G16
 have Fk9 := Fs17; clear Fs17
 simp only [V.spliceL, V.cellsL] at Fk9
 refine V.nil ?_
 refine V.tN ?_
 refine V.ret ?_
 refine V.done1 rfl (V.resV_cell T_ok Fk9 rfl rfl) ?_
 exact ⟨(by first | rfl | simp only [List.length_set]), HG⟩

set_option maxHeartbeats 400000 in
set_option maxRecDepth 10000 in
theorem sput_spec {w : World}  {D_l : Nat → Prop} {c_l : Nat} {a_l : Option Addr} {l : List UInt8} (F_l : Sl V.Cod.byte w D_l a_l c_l l) (hD_l : ∀ k, D_l k → k < w.heap.size) {a : Int} {b : Int} (hl : l.length ≤ 35184372088832) (ha : a ≤ 9223372036854775807) (hb : b ≤ 9223372036854775807) :
    Meets Tryd.prog 28 [.slice a_l l.length c_l, .agg #[.int .i64 a, .int .i64 b]] w fun r w' => ∃ (ra8 : Option Addr) (rc8 : Nat), r = .slice ra8 (l ++ stB a b).length rc8 ∧ V.Row V.Cod.byte 5 w' V.None' w.heap.size w'.heap.size ra8 rc8 (l ++ stB a b) ∧ Gr w w' := by
 have hna := numB_len9 ha
 have HG := V.Fr.refl [] w
 refine V.enter (n := 12) Tryd.func28 rfl rfl (by decide) rfl ?_
 refine V.seq ?_
 refine V.region ?_
 refine V.box rfl rfl rfl rfl ?_
 rintro k1 w3 s5 s6 G4 Fk2
 have z7 := V.Fr.size G4
 try replace F_l := F_l.gr G4
 replace HG := HG.grow G4
 clear G4
 try simp only [V.cellsL, V.spliceL] at Fk2
 refine V.run T_ok 1 rfl ?_
 refine V.nil ?_
 refine V.tN ?_
 refine V.seq ?_
 refine V.drawGT 6 (V.sel [(3, (fun v wz => ∃ (ra2 : Option Addr) (rc2 : Nat), v = .slice ra2 (l ++ numB a.toNat).length rc2 ∧ V.Row V.Cod.byte 5 wz V.None' w3.heap.size wz.heap.size ra2 rc2 (l ++ numB a.toNat)))]) mixed (by kernel_rfl) (V.mono_cons (by rintro v wz wz' g ⟨ra2, rc2, rfl, rF2⟩; exact ⟨ra2, rc2, rfl, (by first | exact (rF2.gr g).mono (V.In.sub (Nat.le_refl _) g.size) | exact rF2.gr g | exact (rF2.gr g).mono (fun _ h => h) (Nat.le_refl _) g.size | exact (rF2.gr g).mono (fun k h => ⟨h.1, Nat.lt_of_lt_of_le h.2 g.size⟩))⟩) V.mono_nil) ?_
 refine V.grun T_ok 2 rfl (V.sel_none rfl) ?_
 refine V.gloadO T_ok (fun w' h => Fk2.gr h.1) rfl rfl rfl rfl rfl rfl ?_
 refine V.gcall (fun w' h => (p_number (v := a) (F_l.gr h.1) (fun k hk => by have := Fr.size h.1; have := hD_l k hk; omega) (by first | omega | (simp only [List.length_take, List.length_drop, List.length_append, List.length_cons, List.length_nil, List.length_replicate, List.length_set, V.length_data, V.S_size]; omega)) (by omega)).mono (by rintro v w'' ⟨ra2, rc2, rfl, rF2, G⟩; exact ⟨⟨ra2, rc2, rfl, (by first | exact rF2.mono (V.In.mono_l h.1.size) | exact rF2 | exact rF2.mono (fun _ h => h) h.1.size (Nat.le_refl _))⟩, G⟩)) rfl rfl rfl rfl ?_
 rintro _ w11 - - ⟨a8, c9, rfl, -⟩
 refine V.grun T_ok 1 rfl (V.sel_none rfl) ?_
 refine V.gloadO T_ok (fun w' h => Fk2.gr h.1) rfl rfl rfl rfl rfl rfl ?_
 refine V.gnil ?_
 rintro w12 G13 hH14
 have z15 := V.Fr.size G13
 try replace F_l := F_l.gr G13
 try replace Fk2 := Fk2.gr G13
 replace HG := HG.grow G13
 clear G13
 have F10 : V.Row V.Cod.byte 5 w12 V.None' w3.heap.size w12.heap.size a8 c9 (l ++ numB a.toNat) := by
   obtain ⟨_, _, he, F0⟩ := (V.Hist.here (hH14 3))
   cases he
   exact F0
 clear hH14
 refine V.call (p_number (v := b) F10.sl (fun k hk => by have := hk.2; omega) (by first | omega | (simp only [List.length_take, List.length_drop, List.length_append, List.length_cons, List.length_nil, List.length_replicate, List.length_set, V.length_data, V.S_size]; omega)) (by omega)) rfl rfl rfl ?_
 rintro _ w19 ⟨a16, c17, rfl, F18, G20⟩
 have z21 := V.Fr.size G20
 try replace F_l := F_l.gr G20
 try replace Fk2 := Fk2.gr G20
 try replace F10 := F10.gr G20
 replace HG := HG.grow G20
 clear G20
 refine V.run T_ok 1 rfl ?_
 refine V.nil ?_
 refine V.tN ?_
 refine V.ret ?_
 refine V.done rfl ?_
 rw [show l ++ stB a b = l ++ numB a.toNat ++ numB b.toNat by simp [stB]]
 exact ⟨a16, c17, (by first | rfl | simp only [List.length_set]), F18.re, HG⟩

set_option maxHeartbeats 400000 in
set_option maxRecDepth 10000 in
theorem rsput_spec {w : World}  {a : Int} {b : Int} (ha : a ≤ 9223372036854775807) (hb : b ≤ 9223372036854775807) :
    Meets Tryd.prog 29 [.agg #[.int .i64 a, .int .i64 b]] w fun r w' => ∃ (ra9 : Option Addr) (rc9 : Nat), r = .slice ra9 (stB a b).length rc9 ∧ V.Row V.Cod.byte 5 w' V.None' w.heap.size w'.heap.size ra9 rc9 (stB a b) ∧ Gr w w' := by
 have hna := numB_len9 ha
 have hnb := numB_len9 hb
 have HG := V.Fr.refl [] w
 refine V.enter (n := 10) Tryd.func29 rfl rfl (by decide) rfl ?_
 refine V.seq ?_
 refine V.region ?_
 refine V.box rfl rfl rfl rfl ?_
 rintro k1 w3 s5 s6 G4 Fk2
 have z7 := V.Fr.size G4
 replace HG := HG.grow G4
 clear G4
 try simp only [V.cellsL, V.spliceL] at Fk2
 refine V.run T_ok 1 rfl ?_
 refine V.nil ?_
 refine V.tN ?_
 refine V.seq ?_
 refine V.drawGT 5 (V.sel [(2, (fun v wz => ∃ (ra5 : Option Addr) (rc5 : Nat), v = .slice ra5 (numB a.toNat).length rc5 ∧ V.Row V.Cod.byte 5 wz V.None' w3.heap.size wz.heap.size ra5 rc5 (numB a.toNat)))]) mixed (by kernel_rfl) (V.mono_cons (by rintro v wz wz' g ⟨ra5, rc5, rfl, rF5⟩; exact ⟨ra5, rc5, rfl, (by first | exact (rF5.gr g).mono (V.In.sub (Nat.le_refl _) g.size) | exact rF5.gr g | exact (rF5.gr g).mono (fun _ h => h) (Nat.le_refl _) g.size | exact (rF5.gr g).mono (fun k h => ⟨h.1, Nat.lt_of_lt_of_le h.2 g.size⟩))⟩) V.mono_nil) ?_
 refine V.grun T_ok 1 rfl (V.sel_none rfl) ?_
 refine V.gloadO T_ok (fun w' h => Fk2.gr h.1) rfl rfl rfl rfl rfl rfl ?_
 refine V.gcall (fun w' h => (rp_number (v := a) (by omega)).mono (by rintro v w'' ⟨ra5, rc5, rfl, rF5, G⟩; exact ⟨⟨ra5, rc5, rfl, (by first | exact rF5.mono (V.In.mono_l h.1.size) | exact rF5 | exact rF5.mono (fun _ h => h) h.1.size (Nat.le_refl _))⟩, G⟩)) rfl rfl rfl rfl ?_
 rintro _ w11 - - ⟨a8, c9, rfl, -⟩
 refine V.grun T_ok 1 rfl (V.sel_none rfl) ?_
 refine V.gloadO T_ok (fun w' h => Fk2.gr h.1) rfl rfl rfl rfl rfl rfl ?_
 refine V.gnil ?_
 rintro w12 G13 hH14
 have z15 := V.Fr.size G13
 try replace Fk2 := Fk2.gr G13
 replace HG := HG.grow G13
 clear G13
 have F10 : V.Row V.Cod.byte 5 w12 V.None' w3.heap.size w12.heap.size a8 c9 (numB a.toNat) := by
   obtain ⟨_, _, he, F0⟩ := (V.Hist.here (hH14 2))
   cases he
   exact F0
 clear hH14
 refine V.call (rp_number (v := b) (by omega)) rfl rfl rfl ?_
 rintro _ w19 ⟨a16, c17, rfl, F18, G20⟩
 have z21 := V.Fr.size G20
 try replace Fk2 := Fk2.gr G20
 try replace F10 := F10.gr G20
 replace HG := HG.grow G20
 clear G20
 refine V.appendR (F10) (V.From.flat V.flat_byte (D' := V.None') (F18.sl.from Tryd.underlying37)) elT37_37 rfl rfl rfl rfl rfl (by first | omega | (simp only [List.length_take, List.length_drop, List.length_append, List.length_cons, List.length_nil, List.length_replicate, List.length_set, V.length_data, V.S_size]; omega)) (by unfold maxLen; first | omega | (simp only [List.length_take, List.length_drop, List.length_append, List.length_cons, List.length_nil, List.length_replicate, List.length_set, V.length_data, V.S_size]; omega)) (by omega) (by omega) (fun _ h => h.elim) (fun _ h => h.elim) ?_
 rintro a22 c23 w25 G26 s27 F24
 clear F10
 have z28 := Go.RowKit.Below.size G26
 first | replace Fk2 := V.Cells.bl Fk2 G26 (by omega) | clear Fk2 | skip
 first | replace F18 := V.Row.bl F18 G26 (by first | exact ⟨fun _ h => h.elim, by omega⟩ | exact ⟨fun _ h => by have := h.2; omega, by omega⟩) | clear F18 | skip
 replace HG := HG.bl (Go.RowKit.Below.mono G26 (by omega))
 clear G26
 refine V.run T_ok 1 rfl ?_
 refine V.nil ?_
 refine V.tN ?_
 refine V.ret ?_
 refine V.done rfl ?_
 exact ⟨a22, c23, (by first | rfl | simp only [List.length_set]), F24.re, HG⟩

set_option maxHeartbeats 400000 in
set_option maxRecDepth 10000 in
theorem sget_nil {w : World}    :
    Meets Tryd.prog 25 [.pointer none] w fun r w' => r = .tuple #[.agg #[.int .i64 0, .int .i64 0], .int .i64 1] ∧ Gr w w' := by
 have HG := V.Fr.refl [] w
 refine V.enter (n := 38) Tryd.func25 rfl rfl (by decide) rfl ?_
 refine V.seq ?_
 refine V.region ?_
 refine V.alloc zero23 rfl rfl rfl ?_
 rintro k1 w3 s5 s6 G4 Fk2
 have z7 := V.Fr.size G4
 replace HG := HG.grow G4
 clear G4
 try simp only [V.cellsL, V.spliceL] at Fk2
 refine V.run T_ok 1 rfl ?_
 refine V.nil ?_
 refine V.tN ?_
 refine V.seq ?_
 refine V.seq ?_
 refine V.region ?_
 refine V.run T_ok 2 rfl ?_
 refine V.nil ?_
 refine V.tN ?_
 refine V.condY rfl rfl ?_
 refine V.seq ?_
 refine V.region ?_
 refine V.mkStruct T_ok zero23 rfl rfl rfl rfl rfl ?_
 refine V.storeO Fk2 rfl rfl rfl rfl sz23 rfl rfl rfl rfl ?_
 rintro w8 G9 z11 Fs10
 clear Fk2
 have z12 := V.Fr.size G9
 replace HG := HG.n1 G9
 clear G9
 have Fk2 := Fs10; clear Fs10
 simp only [V.spliceL, V.cellsL] at Fk2
 refine V.run T_ok 1 rfl ?_
 refine V.nil ?_
 refine V.tN ?_
 refine V.ret ?_
 refine V.tR ?_
 refine V.done2 rfl (V.resV_cell T_ok Fk2 rfl rfl) (V.resV_tmp rfl) ?_
 exact ⟨(by first | rfl | simp only [List.length_set]), HG⟩

set_option maxHeartbeats 400000 in
set_option maxRecDepth 10000 in
theorem sget_spec {w : World} {k : Nat} {D : Nat → Prop} {d : List UInt8} (FX : Rd w k D d)   :
    Meets Tryd.prog 25 [.pointer (some ⟨k, 0, none⟩)] w fun r w' => r = .tuple #[.agg #[.int .i64 (((rdS d).1.1).1), .int .i64 (((rdS d).1.1).2)], .int .i64 ((rdS d).1.2)] ∧ Rd w' k D ((rdS d).2) ∧ Fr [k] w w' := by
 have hkl := FX.lt
 have hnk := FX.nk
 replace FX := FX.flb
 have HG := V.Fr.refl [k] w
 refine V.enter (n := 38) Tryd.func25 rfl rfl (by decide) rfl ?_
 refine V.seq ?_
 refine V.region ?_
 refine V.alloc zero23 rfl rfl rfl ?_
 rintro k1 w3 s5 s6 G4 Fk2
 have z7 := V.Fr.size G4
 try replace FX := FX.gr G4
 replace HG := HG.grow G4
 clear G4
 try simp only [V.cellsL, V.spliceL] at Fk2
 refine V.run T_ok 1 rfl ?_
 refine V.nil ?_
 refine V.tN ?_
 refine V.seq ?_
 refine V.seq ?_
 refine V.region ?_
 refine V.run T_ok 2 rfl ?_
 refine V.nil ?_
 refine V.tN ?_
 refine V.condN rfl rfl ?_
 refine V.skip ?_
 refine V.tN ?_
 refine V.seq ?_
 obtain ⟨a8, c9, F11, F10⟩ := FX.ex
 refine V.region ?_
 refine V.run T_ok 2 rfl ?_
 refine V.loadO T_ok F11 rfl rfl rfl rfl rfl ?_
 refine V.alloc zero57 rfl rfl rfl ?_
 rintro k12 w14 s16 s17 G15 Fk13
 have z18 := V.Fr.size G15
 try replace FX := FX.gr G15
 try replace Fk2 := Fk2.gr G15
 try replace F10 := F10.gr G15
 try replace F11 := F11.gr G15
 replace HG := HG.grow G15
 clear G15
 try simp only [V.cellsL, V.spliceL] at Fk13
 refine V.storeO Fk13 rfl rfl rfl rfl sz57 rfl rfl rfl rfl ?_
 rintro w19 G20 z22 Fs21
 clear Fk13
 have z23 := V.Fr.size G20
 first | replace FX := FX.mv1 G20 (by first | exact ⟨by omega, by assumption⟩ | exact ⟨by omega, fun h => absurd h.1 (by assumption)⟩ | exact ⟨by omega, fun h => absurd h.1.1 (by assumption)⟩ | exact ⟨by omega, fun h => by first | (have h2 := h.1; have h3 := h.2; omega) | (have h2 := h; dsimp only at h2; omega)⟩ | first | omega | exact fun h => h | exact ⟨by omega, fun h => h⟩ | (intro h; first | (have := hD _ h; omega)) | (refine ⟨by omega, ?_⟩; intro h; first | (have := hD _ h; omega))) | clear FX | skip
 first | replace Fk2 := Fk2.mv1 G20 (by omega) | clear Fk2 | skip
 first | replace F10 := F10.ma G20 | clear F10 | skip
 first | replace F11 := F11.mv1 G20 (by omega) | clear F11 | skip
 replace HG := HG.n1 G20
 clear G20
 have Fk13 := Fs21; clear Fs21
 simp only [V.spliceL, V.cellsL] at Fk13
 refine V.nil ?_
 refine V.tN ?_
 refine V.seq ?_
 refine V.region ?_
 refine V.run T_ok 1 rfl ?_
 refine V.call (rd_number (most := 1099511627776) FX) rfl rfl rfl ?_
 rintro _ w25 ⟨rfl, F24, G26⟩
 have z27 := V.Fr.size G26
 first | replace FX := FX.mv1 G26 (by first | exact ⟨by omega, by assumption⟩ | exact ⟨by omega, fun h => absurd h.1 (by assumption)⟩ | exact ⟨by omega, fun h => absurd h.1.1 (by assumption)⟩ | exact ⟨by omega, fun h => by first | (have h2 := h.1; have h3 := h.2; omega) | (have h2 := h; dsimp only at h2; omega)⟩ | first | omega | exact fun h => h | exact ⟨by omega, fun h => h⟩ | (intro h; first | (have := hD _ h; omega)) | (refine ⟨by omega, ?_⟩; intro h; first | (have := hD _ h; omega))) | clear FX | skip
 first | replace Fk2 := Fk2.mv1 G26 (by omega) | clear Fk2 | skip
 first | replace F10 := F10.ma G26 | clear F10 | skip
 first | replace F11 := F11.mv1 G26 (by omega) | clear F11 | skip
 first | replace Fk13 := Fk13.mv1 G26 (by omega) | clear Fk13 | skip
 replace HG := HG.n1 G26
 clear G26
 refine V.run T_ok 5 rfl ?_
 refine V.nil ?_
 refine V.tN ?_
 refine V.seq ?_
 refine V.region ?_
 refine V.run T_ok 1 rfl ?_
 refine V.call (rd_number (most := 65535) F24) rfl rfl rfl ?_
 rintro _ w29 ⟨rfl, F28, G30⟩
 have z31 := V.Fr.size G30
 first | replace Fk2 := Fk2.mv1 G30 (by omega) | clear Fk2 | skip
 first | replace F10 := F10.ma G30 | clear F10 | skip
 first | replace F11 := F11.mv1 G30 (by omega) | clear F11 | skip
 first | replace Fk13 := Fk13.mv1 G30 (by omega) | clear Fk13 | skip
 first | replace F24 := F24.mv1 G30 (by first | exact ⟨by omega, by assumption⟩ | exact ⟨by omega, fun h => absurd h.1 (by assumption)⟩ | exact ⟨by omega, fun h => absurd h.1.1 (by assumption)⟩ | exact ⟨by omega, fun h => by first | (have h2 := h.1; have h3 := h.2; omega) | (have h2 := h; dsimp only at h2; omega)⟩ | first | omega | exact fun h => h | exact ⟨by omega, fun h => h⟩ | (intro h; first | (have := hD _ h; omega)) | (refine ⟨by omega, ?_⟩; intro h; first | (have := hD _ h; omega))) | clear F24 | skip
 replace HG := HG.n1 G30
 clear G30
 refine V.run T_ok 5 rfl ?_
 refine V.nil ?_
 refine V.tN ?_
 refine V.seq ?_
 refine V.seq ?_
 refine V.region ?_
 refine V.run T_ok 3 rfl ?_
 refine V.orG T_ok 2 2 27 rfl rfl rfl rfl rfl rfl rfl rfl ?_
 refine V.nil ?_
 refine V.tN ?_
 refine V.condT rfl (fun h6 => ?_) (fun h6 => ?_)
 ·
  try replace h6 := V.dec h6
  try simp only [V.mk0, V.mk1, V.mk2, V.mk3] at h6
  refine V.seq ?_
  obtain ⟨a32, c33, F35, F34⟩ := F28.ex
  refine V.region ?_
  refine V.run T_ok 1 rfl ?_
  refine V.loadO T_ok Fk13 rfl rfl rfl rfl rfl ?_
  refine V.run T_ok 1 rfl ?_
  refine V.storeO F35 rfl rfl rfl rfl sz57 rfl rfl rfl rfl ?_
  rintro w36 G37 z39 Fs38
  clear F35
  have z40 := V.Fr.size G37
  first | replace Fk2 := Fk2.mv1 G37 (by omega) | clear Fk2 | skip
  first | replace F10 := F10.ma G37 | clear F10 | skip
  first | replace F11 := F11.mv1 G37 (by omega) | clear F11 | skip
  first | replace Fk13 := Fk13.mv1 G37 (by omega) | clear Fk13 | skip
  first | replace F28 := F28.mv1 G37 (by first | exact ⟨by omega, by assumption⟩ | exact ⟨by omega, fun h => absurd h.1 (by assumption)⟩ | exact ⟨by omega, fun h => absurd h.1.1 (by assumption)⟩ | exact ⟨by omega, fun h => by first | (have h2 := h.1; have h3 := h.2; omega) | (have h2 := h; dsimp only at h2; omega)⟩ | first | omega | exact fun h => h | exact ⟨by omega, fun h => h⟩ | (intro h; first | (have := hD _ h; omega)) | (refine ⟨by omega, ?_⟩; intro h; first | (have := hD _ h; omega))) | clear F28 | skip
  first | replace F34 := F34.ma G37 | clear F34 | skip
  replace HG := HG.n1 G37
  clear G37
  have F35 := Fs38; clear Fs38
  simp only [V.spliceL, V.cellsL] at F35
  refine V.nil ?_
  refine V.tN ?_
  refine V.seq ?_
  refine V.region ?_
  refine V.mkStruct T_ok zero23 rfl rfl rfl rfl rfl ?_
  refine V.storeO Fk2 rfl rfl rfl rfl sz23 rfl rfl rfl rfl ?_
  rintro w41 G42 z44 Fs43
  clear Fk2
  have z45 := V.Fr.size G42
  first | replace F10 := F10.ma G42 | clear F10 | skip
  first | replace F11 := F11.mv1 G42 (by omega) | clear F11 | skip
  first | replace Fk13 := Fk13.mv1 G42 (by omega) | clear Fk13 | skip
  first | replace F28 := F28.mv1 G42 (by first | exact ⟨by omega, by assumption⟩ | exact ⟨by omega, fun h => absurd h.1 (by assumption)⟩ | exact ⟨by omega, fun h => absurd h.1.1 (by assumption)⟩ | exact ⟨by omega, fun h => by first | (have h2 := h.1; have h3 := h.2; omega) | (have h2 := h; dsimp only at h2; omega)⟩ | first | omega | exact fun h => h | exact ⟨by omega, fun h => h⟩ | (intro h; first | (have := hD _ h; omega)) | (refine ⟨by omega, ?_⟩; intro h; first | (have := hD _ h; omega))) | clear F28 | skip
  first | replace F34 := F34.ma G42 | clear F34 | skip
  first | replace F35 := F35.mv1 G42 (by omega) | clear F35 | skip
  replace HG := HG.n1 G42
  clear G42
  have Fk2 := Fs43; clear Fs43
  simp only [V.spliceL, V.cellsL] at Fk2
  refine V.run T_ok 1 rfl ?_
  refine V.nil ?_
  refine V.tN ?_
  refine V.ret ?_
  refine V.tR ?_
  refine V.done2 rfl (V.resV_cell T_ok Fk2 rfl rfl) (V.resV_tmp rfl) ?_
  rw [show rdS d = (((0, 0), 11), d) by unfold rdS; simp only; rw [if_pos (by first | assumption | omega)]]
  exact ⟨(by first | rfl | simp only [List.length_set]), ⟨hnk, ⟨_, _, F35, (by first | exact F10 | exact F10.mono (fun k h => hnew k (by have := h.1; omega)) | exact F10.mono (fun k h => h.1))⟩⟩, HG⟩
 ·
  try replace h6 := V.dec h6
  try simp only [V.mk0, V.mk1, V.mk2, V.mk3] at h6
  refine V.skip ?_
  refine V.tN ?_
  refine V.seq ?_
  refine V.region ?_
  refine V.run T_ok 2 rfl ?_
  refine V.mkStruct T_ok zero23 rfl rfl rfl rfl rfl ?_
  refine V.storeO Fk2 rfl rfl rfl rfl sz23 rfl rfl rfl rfl ?_
  rintro w46 G47 z49 Fs48
  clear Fk2
  have z50 := V.Fr.size G47
  first | replace F10 := F10.ma G47 | clear F10 | skip
  first | replace F11 := F11.mv1 G47 (by omega) | clear F11 | skip
  first | replace Fk13 := Fk13.mv1 G47 (by omega) | clear Fk13 | skip
  first | replace F28 := F28.mv1 G47 (by first | exact ⟨by omega, by assumption⟩ | exact ⟨by omega, fun h => absurd h.1 (by assumption)⟩ | exact ⟨by omega, fun h => absurd h.1.1 (by assumption)⟩ | exact ⟨by omega, fun h => by first | (have h2 := h.1; have h3 := h.2; omega) | (have h2 := h; dsimp only at h2; omega)⟩ | first | omega | exact fun h => h | exact ⟨by omega, fun h => h⟩ | (intro h; first | (have := hD _ h; omega)) | (refine ⟨by omega, ?_⟩; intro h; first | (have := hD _ h; omega))) | clear F28 | skip
  replace HG := HG.n1 G47
  clear G47
  have Fk2 := Fs48; clear Fs48
  simp only [V.spliceL, V.cellsL] at Fk2
  refine V.run T_ok 1 rfl ?_
  refine V.nil ?_
  refine V.tN ?_
  refine V.ret ?_
  refine V.done2 rfl (V.resV_cell T_ok Fk2 rfl rfl) (V.resV_tmp rfl) ?_
  rw [show rdS d = (((_, _), 0), _) by unfold rdS; simp only; rw [if_neg (by omega)]]
  exact ⟨(by first | rfl | simp only [List.length_set]), (F28.mono (fun _ h => h.1) hnk), HG⟩


theorem rdS_stB {x y : Int} (h : stR x y) (r : List UInt8) : rdS (stB x y ++ r) = (((x, y), 0), r) := by
  obtain ⟨h1, h2, h3, h4⟩ := h
  have e1 := rdN_num (v := x.toNat) (most := 1099511627776) (by omega) (by omega) (numB y.toNat ++ r)
  have e2 := rdN_num (v := y.toNat) (most := 65535) (by omega) (by omega) r
  rw [Int.toNat_of_nonneg h1] at e1
  rw [Int.toNat_of_nonneg h3] at e2
  unfold rdS
  simp only [stB, List.append_assoc, e1, e2]
  simp
theorem rdS_ok {cs : List UInt8} (h : (rdS cs).1.2 = 0) : ∃ x y r, cs = stB x y ++ r ∧ stR x y ∧ rdS cs = (((x, y), 0), r) := by
  by_cases hc : (rdN cs 1099511627776).1.2 ≠ 0 ∨ (rdN (rdN cs 1099511627776).2 65535).1.2 ≠ 0
  · unfold rdS at h; simp only [hc] at h; simp at h
  · have h1 : (rdN cs 1099511627776).1.2 = 0 := by omega
    have h2 : (rdN (rdN cs 1099511627776).2 65535).1.2 = 0 := by omega
    obtain ⟨u, r1, e1, l1, m1, n1⟩ := rdN_ok h1
    rw [n1] at h2
    obtain ⟨v, r2, e2, l2, m2, n2⟩ := rdN_ok h2
    have hR : stR (u : Int) (v : Int) := ⟨by omega, by omega, by omega, by omega⟩
    have e : cs = stB (u : Int) (v : Int) ++ r2 := by
      dsimp only at e2
      rw [e1, e2]; simp [stB]
    exact ⟨u, v, r2, e, hR, by conv => lhs; rw [e]
                               exact rdS_stB hR r2⟩
theorem rdS_bad {cs : List UInt8} (h : (rdS cs).1.2 ≠ 0) : rdS cs = (((0, 0), 11), cs) := by
  by_cases hc : (rdN cs 1099511627776).1.2 ≠ 0 ∨ (rdN (rdN cs 1099511627776).2 65535).1.2 ≠ 0
  · unfold rdS; simp only [hc]; simp
  · unfold rdS at h; simp only [hc] at h; simp at h


/-- how many bytes a stamp has that is read -/
def rdSC (cs : List UInt8) : Nat :=
  let x := rdN cs 1099511627776
  let y := rdN x.2 65535
  if x.1.2 ≠ 0 ∨ y.1.2 ≠ 0 then 0 else rdC cs 1099511627776 + rdC x.2 65535
theorem rdS_snd (cs : List UInt8) : (rdS cs).2 = cs.drop (rdSC cs) := by
  unfold rdS rdSC; dsimp only
  split
  · simp
  · rw [rdN_snd (rdN cs 1099511627776).2, rdN_snd cs, List.drop_drop]
theorem rdSC_le (cs : List UInt8) : rdSC cs ≤ cs.length := by
  have h1 := rdC_le cs 1099511627776
  have h2 := rdC_le (rdN cs 1099511627776).2 65535
  rw [rdN_snd cs, List.length_drop] at h2
  unfold rdSC; dsimp only
  split
  · omega
  · rw [rdN_snd cs]; omega
def rfS (d : RfV) : RfV := ⟨d.bs, d.i + rdSC (d.bs.drop d.i), d.bad || decide ((rdS (d.bs.drop d.i)).1.2 ≠ 0)⟩
theorem rfN_next (d : RfV) (m : Int) : (rfN d m).bs.drop (rfN d m).i = (rdN (d.bs.drop d.i) m).2 := by
  rw [rdN_snd]; simp [rfN, List.drop_drop]
theorem rfS_ok {d : RfV} (h : ¬ ((rdN (d.bs.drop d.i) 1099511627776).1.2 ≠ 0 ∨ (rdN (rdN (d.bs.drop d.i) 1099511627776).2 65535).1.2 ≠ 0)) : rfS d = rfN (rfN d 1099511627776) 65535 ∧ rdS (d.bs.drop d.i) = ((((rdN (d.bs.drop d.i) 1099511627776).1.1, (rdN (rdN (d.bs.drop d.i) 1099511627776).2 65535).1.1), 0), (rdN (rdN (d.bs.drop d.i) 1099511627776).2 65535).2) := by
  have e1 : rdS (d.bs.drop d.i) = ((((rdN (d.bs.drop d.i) 1099511627776).1.1, (rdN (rdN (d.bs.drop d.i) 1099511627776).2 65535).1.1), 0), (rdN (rdN (d.bs.drop d.i) 1099511627776).2 65535).2) := by unfold rdS; dsimp only; rw [if_neg h]
  refine ⟨?_, e1⟩
  have e2 : rdSC (d.bs.drop d.i) = rdC (d.bs.drop d.i) 1099511627776 + rdC (rdN (d.bs.drop d.i) 1099511627776).2 65535 := by unfold rdSC; dsimp only; rw [if_neg h]
  unfold rfS
  rw [e1, e2]
  show _ = RfV.mk _ _ _
  rw [rfN_next]
  have h1 : (rdN (d.bs.drop d.i) 1099511627776).1.2 = 0 := by omega
  have h2 : (rdN (rdN (d.bs.drop d.i) 1099511627776).2 65535).1.2 = 0 := by omega
  simp [rfN, h1, h2, Nat.add_assoc]
theorem rfS_bad {d : RfV} (h : (rdN (d.bs.drop d.i) 1099511627776).1.2 ≠ 0 ∨ (rdN (rdN (d.bs.drop d.i) 1099511627776).2 65535).1.2 ≠ 0) : rfS d = ⟨d.bs, d.i, true⟩ ∧ rdS (d.bs.drop d.i) = (((0, 0), 11), d.bs.drop d.i) := by
  have e1 : rdS (d.bs.drop d.i) = (((0, 0), 11), d.bs.drop d.i) := by unfold rdS; dsimp only; rw [if_pos h]
  have e2 : rdSC (d.bs.drop d.i) = 0 := by unfold rdSC; dsimp only; rw [if_pos h]
  refine ⟨?_, e1⟩
  unfold rfS
  rw [e1, e2]; simp

set_option maxHeartbeats 400000 in
set_option maxRecDepth 10000 in
theorem rsget_spec {w : World} {k : Nat} {D : Nat → Prop} {d : RfV} (FX : Rf w k D d)   :
    Meets Tryd.prog 26 [.pointer (some ⟨k, 0, none⟩)] w fun r w' => r = .tuple #[.agg #[.int .i64 (((rdS (d.bs.drop d.i)).1.1).1), .int .i64 (((rdS (d.bs.drop d.i)).1.1).2)], .int .i64 ((rdS (d.bs.drop d.i)).1.2)] ∧ Rf w' k D (rfS d) ∧ Fr [k] w w' := by
 have hkl := FX.lt
 have hnk := FX.nk
 replace FX := FX.flb
 have hle := FX.le
 have HG := V.Fr.refl [k] w
 refine V.enter (n := 40) Tryd.func26 rfl rfl (by decide) rfl ?_
 refine V.seq ?_
 refine V.region ?_
 refine V.alloc zero23 rfl rfl rfl ?_
 rintro k1 w3 s5 s6 G4 Fk2
 have z7 := V.Fr.size G4
 try replace FX := FX.gr G4
 replace HG := HG.grow G4
 clear G4
 try simp only [V.cellsL, V.spliceL] at Fk2
 refine V.run T_ok 1 rfl ?_
 refine V.nil ?_
 refine V.tN ?_
 refine V.seq ?_
 obtain ⟨a8, c9, F11, F10⟩ := FX.ex
 refine V.region ?_
 refine V.run T_ok 3 rfl ?_
 refine V.loadO T_ok F11 rfl rfl rfl rfl rfl ?_
 refine V.run T_ok 1 rfl ?_
 refine V.nil ?_
 refine V.tN ?_
 refine V.seq ?_
 refine V.region ?_
 refine V.run T_ok 1 rfl ?_
 refine V.call (rf_number (most := 1099511627776) FX) rfl rfl rfl ?_
 rintro _ w13 ⟨rfl, F12, G14⟩
 have z15 := V.Fr.size G14
 first | replace FX := FX.mv1 G14 (by first | exact ⟨by omega, by assumption⟩ | exact ⟨by omega, fun h => absurd h.1 (by assumption)⟩ | exact ⟨by omega, fun h => absurd h.1.1 (by assumption)⟩ | exact ⟨by omega, fun h => by first | (have h2 := h.1; have h3 := h.2; omega) | (have h2 := h; dsimp only at h2; omega)⟩ | first | omega | exact fun h => h | exact ⟨by omega, fun h => h⟩ | (intro h; first | (have := hD _ h; omega)) | (refine ⟨by omega, ?_⟩; intro h; first | (have := hD _ h; omega))) | clear FX | skip
 first | replace Fk2 := Fk2.mv1 G14 (by omega) | clear Fk2 | skip
 first | replace F10 := F10.ma G14 | clear F10 | skip
 first | replace F11 := F11.mv1 G14 (by omega) | clear F11 | skip
 replace HG := HG.n1 G14
 clear G14
 refine V.run T_ok 5 rfl ?_
 refine V.nil ?_
 refine V.tN ?_
 refine V.seq ?_
 refine V.region ?_
 refine V.run T_ok 1 rfl ?_
 refine V.call (rf_number (most := 65535) F12) rfl rfl rfl ?_
 rintro _ w17 ⟨rfl, F16, G18⟩
 have z19 := V.Fr.size G18
 first | replace Fk2 := Fk2.mv1 G18 (by omega) | clear Fk2 | skip
 first | replace F10 := F10.ma G18 | clear F10 | skip
 first | replace F11 := F11.mv1 G18 (by omega) | clear F11 | skip
 first | replace F12 := F12.mv1 G18 (by first | exact ⟨by omega, by assumption⟩ | exact ⟨by omega, fun h => absurd h.1 (by assumption)⟩ | exact ⟨by omega, fun h => absurd h.1.1 (by assumption)⟩ | exact ⟨by omega, fun h => by first | (have h2 := h.1; have h3 := h.2; omega) | (have h2 := h; dsimp only at h2; omega)⟩ | first | omega | exact fun h => h | exact ⟨by omega, fun h => h⟩ | (intro h; first | (have := hD _ h; omega)) | (refine ⟨by omega, ?_⟩; intro h; first | (have := hD _ h; omega))) | clear F12 | skip
 replace HG := HG.n1 G18
 clear G18
 refine V.run T_ok 5 rfl ?_
 refine V.nil ?_
 refine V.tN ?_
 refine V.seq ?_
 refine V.seq ?_
 refine V.region ?_
 refine V.run T_ok 3 rfl ?_
 refine V.orG T_ok 2 2 25 rfl rfl rfl rfl rfl rfl rfl rfl ?_
 refine V.nil ?_
 refine V.tN ?_
 refine V.condT rfl (fun h4 => ?_) (fun h4 => ?_)
 ·
  try replace h4 := V.dec h4
  try simp only [V.mk0, V.mk1, V.mk2, V.mk3] at h4
  refine V.seq ?_
  obtain ⟨a20, c21, F23, F22⟩ := F16.ex
  refine V.region ?_
  refine V.run T_ok 4 rfl ?_
  refine V.storeO F23 rfl rfl rfl rfl sz3 rfl rfl rfl rfl ?_
  rintro w24 G25 z27 Fs26
  clear F23
  have z28 := V.Fr.size G25
  first | replace Fk2 := Fk2.mv1 G25 (by omega) | clear Fk2 | skip
  first | replace F10 := F10.ma G25 | clear F10 | skip
  first | replace F11 := F11.mv1 G25 (by omega) | clear F11 | skip
  first | replace F16 := F16.mv1 G25 (by first | exact ⟨by omega, by assumption⟩ | exact ⟨by omega, fun h => absurd h.1 (by assumption)⟩ | exact ⟨by omega, fun h => absurd h.1.1 (by assumption)⟩ | exact ⟨by omega, fun h => by first | (have h2 := h.1; have h3 := h.2; omega) | (have h2 := h; dsimp only at h2; omega)⟩ | first | omega | exact fun h => h | exact ⟨by omega, fun h => h⟩ | (intro h; first | (have := hD _ h; omega)) | (refine ⟨by omega, ?_⟩; intro h; first | (have := hD _ h; omega))) | clear F16 | skip
  first | replace F22 := F22.ma G25 | clear F22 | skip
  replace HG := HG.n1 G25
  clear G25
  have F23 := Fs26; clear Fs26
  simp only [V.spliceL, V.cellsL] at F23
  refine V.nil ?_
  refine V.tN ?_
  refine V.seq ?_
  refine V.region ?_
  refine V.run T_ok 3 rfl ?_
  refine V.storeO F23 rfl rfl rfl rfl sz4 rfl rfl rfl rfl ?_
  rintro w29 G30 z32 Fs31
  clear F23
  have z33 := V.Fr.size G30
  first | replace Fk2 := Fk2.mv1 G30 (by omega) | clear Fk2 | skip
  first | replace F10 := F10.ma G30 | clear F10 | skip
  first | replace F11 := F11.mv1 G30 (by omega) | clear F11 | skip
  first | replace F16 := F16.mv1 G30 (by first | exact ⟨by omega, by assumption⟩ | exact ⟨by omega, fun h => absurd h.1 (by assumption)⟩ | exact ⟨by omega, fun h => absurd h.1.1 (by assumption)⟩ | exact ⟨by omega, fun h => by first | (have h2 := h.1; have h3 := h.2; omega) | (have h2 := h; dsimp only at h2; omega)⟩ | first | omega | exact fun h => h | exact ⟨by omega, fun h => h⟩ | (intro h; first | (have := hD _ h; omega)) | (refine ⟨by omega, ?_⟩; intro h; first | (have := hD _ h; omega))) | clear F16 | skip
  first | replace F22 := F22.ma G30 | clear F22 | skip
  replace HG := HG.n1 G30
  clear G30
  have F23 := Fs31; clear Fs31
  simp only [V.spliceL, V.cellsL] at F23
  refine V.nil ?_
  refine V.tN ?_
  refine V.seq ?_
  refine V.region ?_
  refine V.mkStruct T_ok zero23 rfl rfl rfl rfl rfl ?_
  refine V.storeO Fk2 rfl rfl rfl rfl sz23 rfl rfl rfl rfl ?_
  rintro w34 G35 z37 Fs36
  clear Fk2
  have z38 := V.Fr.size G35
  first | replace F10 := F10.ma G35 | clear F10 | skip
  first | replace F11 := F11.mv1 G35 (by omega) | clear F11 | skip
  first | replace F16 := F16.mv1 G35 (by first | exact ⟨by omega, by assumption⟩ | exact ⟨by omega, fun h => absurd h.1 (by assumption)⟩ | exact ⟨by omega, fun h => absurd h.1.1 (by assumption)⟩ | exact ⟨by omega, fun h => by first | (have h2 := h.1; have h3 := h.2; omega) | (have h2 := h; dsimp only at h2; omega)⟩ | first | omega | exact fun h => h | exact ⟨by omega, fun h => h⟩ | (intro h; first | (have := hD _ h; omega)) | (refine ⟨by omega, ?_⟩; intro h; first | (have := hD _ h; omega))) | clear F16 | skip
  first | replace F22 := F22.ma G35 | clear F22 | skip
  first | replace F23 := F23.mv1 G35 (by omega) | clear F23 | skip
  replace HG := HG.n1 G35
  clear G35
  have Fk2 := Fs36; clear Fs36
  simp only [V.spliceL, V.cellsL] at Fk2
  refine V.run T_ok 1 rfl ?_
  refine V.nil ?_
  refine V.tN ?_
  refine V.ret ?_
  refine V.tR ?_
  refine V.done2 rfl (V.resV_cell T_ok Fk2 rfl rfl) (V.resV_tmp rfl) ?_
  obtain ⟨e1, e2⟩ := rfS_bad (d := d) (by rw [← rfN_next d]; omega)
  rw [e1, e2]
  exact ⟨(by first | rfl | simp only [List.length_set]), ⟨hnk, ⟨_, _, F23, (by first | exact F22 | exact F22.mono (fun k h => hnew k (by have := h.1; omega)) | exact F22.mono (fun k h => h.1))⟩, hle⟩, HG⟩
 ·
  try replace h4 := V.dec h4
  try simp only [V.mk0, V.mk1, V.mk2, V.mk3] at h4
  refine V.skip ?_
  refine V.tN ?_
  refine V.seq ?_
  refine V.region ?_
  refine V.run T_ok 2 rfl ?_
  refine V.mkStruct T_ok zero23 rfl rfl rfl rfl rfl ?_
  refine V.storeO Fk2 rfl rfl rfl rfl sz23 rfl rfl rfl rfl ?_
  rintro w39 G40 z42 Fs41
  clear Fk2
  have z43 := V.Fr.size G40
  first | replace F10 := F10.ma G40 | clear F10 | skip
  first | replace F11 := F11.mv1 G40 (by omega) | clear F11 | skip
  first | replace F16 := F16.mv1 G40 (by first | exact ⟨by omega, by assumption⟩ | exact ⟨by omega, fun h => absurd h.1 (by assumption)⟩ | exact ⟨by omega, fun h => absurd h.1.1 (by assumption)⟩ | exact ⟨by omega, fun h => by first | (have h2 := h.1; have h3 := h.2; omega) | (have h2 := h; dsimp only at h2; omega)⟩ | first | omega | exact fun h => h | exact ⟨by omega, fun h => h⟩ | (intro h; first | (have := hD _ h; omega)) | (refine ⟨by omega, ?_⟩; intro h; first | (have := hD _ h; omega))) | clear F16 | skip
  replace HG := HG.n1 G40
  clear G40
  have Fk2 := Fs41; clear Fs41
  simp only [V.spliceL, V.cellsL] at Fk2
  refine V.run T_ok 1 rfl ?_
  refine V.nil ?_
  refine V.tN ?_
  refine V.ret ?_
  refine V.done2 rfl (V.resV_cell T_ok Fk2 rfl rfl) (V.resV_tmp rfl) ?_
  obtain ⟨e1, e2⟩ := rfS_ok (d := d) (by rw [← rfN_next d]; omega)
  rw [e1, e2, rfN_next d]
  exact ⟨(by first | rfl | simp only [List.length_set]), (F16.mono (fun _ h => h.1) hnk), HG⟩

end Go.Proofs.YtbpfojlnndkaoaaDoor
