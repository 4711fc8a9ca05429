/- Proved here: walks: what functions of this seat's program return and what they leave of memory, each as a contract. Conditions: stated at each theorem. -/
import Derived.Test.YtkklebdlbmoogaaMs
namespace Go.Proofs.Ytkklebdlbmoogaa
set_option linter.unusedVariables false
set_option linter.unusedSimpArgs false
open Go
open V (Bytes Meets Env Sl Own Gr Fr Cells S)

def cmpI (x y : Int) : Int := if x < y then -1 else if y < x then 1 else 0
def cmpS (a b c d : Int) : Int := if cmpI a c ≠ 0 then cmpI a c else cmpI b d
def maxSt (a b c d : Int) : Int × Int := if a < c ∨ a = c ∧ b < d then (c, d) else (a, b)
/-- a stamp is right -/
def stR (a b : Int) : Prop := 0 ≤ a ∧ a ≤ 1099511627776 ∧ 0 ≤ b ∧ b ≤ 65535
instance (a b : Int) : Decidable (stR a b) := inferInstanceAs (Decidable (_ ∧ _))
def nextSt (a b : Int) : (Int × Int) × Int := if ¬ stR a b ∨ a = 1099511627776 ∧ b = 65535 then ((0, 0), 31) else if b = 65535 then ((a + 1, 0), 0) else ((a, b + 1), 0)
def plusSt (a t : Int) : Int := min (max (min (max a (-2199023255552)) 2199023255552 + min (max t (-4398046511104)) 4398046511104) 0) 1099511627776
/-- a stamp's bytes -/
def stB (a b : Int) : List UInt8 := numB a.toNat ++ numB b.toNat
/-- the stamp that is read -/
def rdS (d : List UInt8) : ((Int × Int) × Int) × List UInt8 :=
  let x := rdN d 1099511627776
  let y := rdN x.2 65535
  if x.1.2 ≠ 0 ∨ y.1.2 ≠ 0 then (((0, 0), 11), d) else (((x.1.1, y.1.1), 0), y.2)

theorem eqG26 : Try.prog.eqGuardType Try.prog.depth 26 = false := by kernel_rfl
theorem eqD26 (d : Nat) (w : World) {x0 y0 : Int} {x1 y1 : Int} : (Op.equalIn (d + 2) 26 (.agg #[.int .i64 x0, .int .i64 x1]) (.agg #[.int .i64 y0, .int .i64 y1])).run Try.prog w = .ok ((decide (x0 = y0)) && ((decide (x1 = y1)) && (true))) w :=
  V.eqIn_struct _ Try.underlying26 (by kernel_rfl) (V.eqF_cons (agg := false) (by decide) sz3 (by kernel_rfl) (by kernel_rfl) rfl rfl (V.eqIn_int _ Try.underlying3) (V.eqF_cons (agg := false) (by decide) sz3 (by kernel_rfl) (by kernel_rfl) rfl rfl (V.eqIn_int _ Try.underlying3) V.eqF_nil))
theorem eqS26 (w : World) {x0 y0 : Int} {x1 y1 : Int} : (Op.equalIn 10000 26 (.agg #[.int .i64 x0, .int .i64 x1]) (.agg #[.int .i64 y0, .int .i64 y1])).run Try.prog w = .ok ((decide (x0 = y0)) && ((decide (x1 = y1)) && (true))) w := eqD26 9998 w

set_option maxHeartbeats 300000 in
set_option maxRecDepth 10000 in
theorem within_spec {w : World}  {n : Int} {l : Int} {m : Int}  :
    Meets Try.prog 74 [.int .i64 n, .int .i64 l, .int .i64 m] w fun r w' => r = .bool (decide (l ≤ n ∧ n ≤ m)) ∧ w = w' := by
 refine V.enter (n := 15) Try.func74 rfl rfl (by decide) rfl ?_
 refine V.seq ?_
 refine V.region ?_
 refine V.run T_ok 1 rfl ?_
 refine V.nil ?_
 refine V.tN ?_
 refine V.seq ?_
 refine V.region ?_
 refine V.run T_ok 4 rfl ?_
 refine V.andG T_ok 3 3 10 rfl rfl rfl rfl rfl rfl rfl rfl ?_
 refine V.run T_ok 1 rfl ?_
 refine V.nil ?_
 refine V.tN ?_
 refine V.ret ?_
 refine V.done rfl ?_
 exact ⟨(congrArg Value.bool (by first | rfl | (grind))), rfl⟩

set_option maxHeartbeats 300000 in
set_option maxRecDepth 10000 in
theorem right_spec {w : World}  {a : Int} {b : Int}  :
    Meets Try.prog 67 [.agg #[.int .i64 a, .int .i64 b]] w fun r w' => r = .bool (decide (0 ≤ a ∧ a ≤ 1099511627776 ∧ 0 ≤ b ∧ b ≤ 65535)) ∧ Gr w w' := by
 have HG := V.Fr.refl [] w
 refine V.enter (n := 11) Try.func67 rfl rfl (by decide) rfl ?_
 refine V.seq ?_
 refine V.region ?_
 refine V.box rfl rfl rfl rfl ?_
 rintro k1 w3 s5 s6 G4 Fk2
 have z7 := V.Fr.size G4
 replace HG := HG.grow G4
 clear G4
 try simp only [V.cellsL, V.spliceL] at Fk2
 refine V.run T_ok 1 rfl ?_
 refine V.nil ?_
 refine V.tN ?_
 refine V.seq ?_
 refine V.region ?_
 refine V.run T_ok 1 rfl ?_
 refine V.loadO T_ok Fk2 rfl rfl rfl rfl rfl ?_
 refine V.call (within_spec (n := a) (l := 0) (m := 1099511627776)) rfl rfl rfl ?_
 rintro _ w3_ ⟨rfl, rfl⟩
 refine V.run T_ok 1 rfl ?_
 refine V.split (j := 3) (t := 6) rfl rfl (fun g1_3 => ?_) (fun g1_3 => ?_)
 ·
  try replace g1_3 := V.dec g1_3
  try simp only [V.mk0, V.mk1, V.mk2, V.mk3] at g1_3
  refine V.run T_ok 1 rfl ?_
  refine V.yes rfl rfl rfl ?_
  refine V.loadO T_ok Fk2 rfl rfl rfl rfl rfl ?_
  refine V.yes rfl rfl rfl ?_
  refine V.call (within_spec (n := b) (l := 0) (m := 65535)) rfl rfl rfl ?_
  rintro _ w3_ ⟨rfl, rfl⟩
  refine V.run T_ok 2 rfl ?_
  refine V.nil ?_
  refine V.tN ?_
  refine V.ret ?_
  refine V.done rfl ?_
  exact ⟨(congrArg Value.bool (by first | rfl | (grind))), HG⟩
 ·
  try replace g1_3 := V.dec g1_3
  try simp only [V.mk0, V.mk1, V.mk2, V.mk3] at g1_3
  refine V.run T_ok 5 rfl ?_
  refine V.nil ?_
  refine V.tN ?_
  refine V.ret ?_
  refine V.done rfl ?_
  exact ⟨(congrArg Value.bool (by first | rfl | (grind))), HG⟩

theorem cmpS_lt {a b c d : Int} : cmpS a b c d < 0 ↔ a < c ∨ a = c ∧ b < d := by unfold cmpS cmpI; grind
theorem cmpI_rng (x y : Int) : -1 ≤ cmpI x y ∧ cmpI x y ≤ 1 := by unfold cmpI; grind
theorem cmpS_neg {a b c d : Int} : IntKind.i64.wrap (0 - cmpS c d a b) = cmpS a b c d := by
  have h1 := cmpI_rng c a
  have h2 := cmpI_rng d b
  rw [V.wrap_in (x := 0 - cmpS c d a b) (by unfold cmpS; grind) (by unfold cmpS; grind)]
  unfold cmpS cmpI; grind

set_option maxHeartbeats 300000 in
set_option maxRecDepth 10000 in
theorem rright_spec {w : World}  {a : Int} {b : Int}  :
    Meets Try.prog 78 [.agg #[.int .i64 a, .int .i64 b]] w fun r w' => r = .bool (decide (0 ≤ a ∧ a ≤ 1099511627776 ∧ 0 ≤ b ∧ b ≤ 65535)) ∧ Gr w w' := by
 have HG := V.Fr.refl [] w
 refine V.enter (n := 21) Try.func78 rfl rfl (by decide) rfl ?_
 refine V.seq ?_
 refine V.region ?_
 refine V.box rfl rfl rfl rfl ?_
 rintro k1 w3 s5 s6 G4 Fk2
 have z7 := V.Fr.size G4
 replace HG := HG.grow G4
 clear G4
 try simp only [V.cellsL, V.spliceL] at Fk2
 refine V.run T_ok 1 rfl ?_
 refine V.nil ?_
 refine V.tN ?_
 refine V.seq ?_
 refine V.region ?_
 refine V.run T_ok 1 rfl ?_
 refine V.loadO T_ok Fk2 rfl rfl rfl rfl rfl ?_
 refine V.run T_ok 2 rfl ?_
 refine V.split (j := 3) (t := 6) rfl rfl (fun g1_3 => ?_) (fun g1_3 => ?_)
 ·
  try replace g1_3 := V.dec g1_3
  try simp only [V.mk0, V.mk1, V.mk2, V.mk3] at g1_3
  refine V.run T_ok 1 rfl ?_
  refine V.yes rfl rfl rfl ?_
  refine V.loadO T_ok Fk2 rfl rfl rfl rfl rfl ?_
  refine V.run T_ok 3 rfl ?_
  refine V.split (j := 8) (t := 11) rfl rfl (fun g1_8 => ?_) (fun g1_8 => ?_)
  ·
   try replace g1_8 := V.dec g1_8
   try simp only [V.mk0, V.mk1, V.mk2, V.mk3] at g1_8
   refine V.run T_ok 1 rfl ?_
   refine V.yes rfl rfl rfl ?_
   refine V.loadO T_ok Fk2 rfl rfl rfl rfl rfl ?_
   refine V.run T_ok 3 rfl ?_
   refine V.split (j := 13) (t := 16) rfl rfl (fun g1_13 => ?_) (fun g1_13 => ?_)
   ·
    try replace g1_13 := V.dec g1_13
    try simp only [V.mk0, V.mk1, V.mk2, V.mk3] at g1_13
    refine V.run T_ok 1 rfl ?_
    refine V.yes rfl rfl rfl ?_
    refine V.loadO T_ok Fk2 rfl rfl rfl rfl rfl ?_
    refine V.run T_ok 3 rfl ?_
    refine V.nil ?_
    refine V.tN ?_
    refine V.ret ?_
    refine V.done rfl ?_
    exact ⟨(congrArg Value.bool (by first | rfl | (grind))), HG⟩
   ·
    try replace g1_13 := V.dec g1_13
    try simp only [V.mk0, V.mk1, V.mk2, V.mk3] at g1_13
    refine V.run T_ok 5 rfl ?_
    refine V.nil ?_
    refine V.tN ?_
    refine V.ret ?_
    refine V.done rfl ?_
    exact ⟨(congrArg Value.bool (by first | rfl | (grind))), HG⟩
  ·
   try replace g1_8 := V.dec g1_8
   try simp only [V.mk0, V.mk1, V.mk2, V.mk3] at g1_8
   refine V.run T_ok 10 rfl ?_
   refine V.nil ?_
   refine V.tN ?_
   refine V.ret ?_
   refine V.done rfl ?_
   exact ⟨(congrArg Value.bool (by first | rfl | (grind))), HG⟩
 ·
  try replace g1_3 := V.dec g1_3
  try simp only [V.mk0, V.mk1, V.mk2, V.mk3] at g1_3
  refine V.run T_ok 15 rfl ?_
  refine V.nil ?_
  refine V.tN ?_
  refine V.ret ?_
  refine V.done rfl ?_
  exact ⟨(congrArg Value.bool (by first | rfl | (grind))), HG⟩

set_option maxHeartbeats 300000 in
set_option maxRecDepth 10000 in
theorem sput_spec {w : World}  {D_l : Nat → Prop} {c_l : Nat} {a_l : Option Addr} {l : List UInt8} (F_l : Sl V.Cod.byte w D_l a_l c_l l) (hD_l : ∀ k, D_l k → k < w.heap.size) {a : Int} {b : Int} (hl : l.length ≤ 35184372088832) (ha : a ≤ 9223372036854775807) (hb : b ≤ 9223372036854775807) :
    Meets Try.prog 35 [.slice a_l l.length c_l, .agg #[.int .i64 a, .int .i64 b]] w fun r w' => ∃ (ra19 : Option Addr) (rc19 : Nat), r = .slice ra19 (l ++ stB a b).length rc19 ∧ V.Row V.Cod.byte 5 w' V.None' w.heap.size w'.heap.size ra19 rc19 (l ++ stB a b) ∧ Gr w w' := by
 have hna := numB_len9 ha
 have HG := V.Fr.refl [] w
 refine V.enter (n := 12) Try.func35 rfl rfl (by decide) rfl ?_
 refine V.seq ?_
 refine V.region ?_
 refine V.box rfl rfl rfl rfl ?_
 rintro k1 w3 s5 s6 G4 Fk2
 have z7 := V.Fr.size G4
 try replace F_l := F_l.gr G4
 replace HG := HG.grow G4
 clear G4
 try simp only [V.cellsL, V.spliceL] at Fk2
 refine V.run T_ok 1 rfl ?_
 refine V.nil ?_
 refine V.tN ?_
 refine V.seq ?_
 refine V.drawGT 6 (V.sel [(3, (fun v wz => ∃ (ra2 : Option Addr) (rc2 : Nat), v = .slice ra2 (l ++ numB a.toNat).length rc2 ∧ V.Row V.Cod.byte 5 wz V.None' w3.heap.size wz.heap.size ra2 rc2 (l ++ numB a.toNat)))]) mixed (by kernel_rfl) (V.mono_cons (by rintro v wz wz' g ⟨ra2, rc2, rfl, rF2⟩; exact ⟨ra2, rc2, rfl, (by first | exact (rF2.gr g).mono (V.In.sub (Nat.le_refl _) g.size) | exact rF2.gr g | exact (rF2.gr g).mono (fun _ h => h) (Nat.le_refl _) g.size | exact (rF2.gr g).mono (fun k h => ⟨h.1, Nat.lt_of_lt_of_le h.2 g.size⟩))⟩) V.mono_nil) ?_
 refine V.grun T_ok 2 rfl (V.sel_none rfl) ?_
 refine V.gloadO T_ok (fun w' h => Fk2.gr h.1) rfl rfl rfl rfl rfl rfl ?_
 refine V.gcall (fun w' h => (p_number (v := a) (F_l.gr h.1) (fun k hk => by have := Fr.size h.1; have := hD_l k hk; omega) (by first | omega | (simp only [List.length_take, List.length_drop, List.length_append, List.length_cons, List.length_nil, List.length_replicate, List.length_set, V.length_data, V.S_size]; omega)) (by omega)).mono (by rintro v w'' ⟨ra2, rc2, rfl, rF2, G⟩; exact ⟨⟨ra2, rc2, rfl, (by first | exact rF2.mono (V.In.mono_l h.1.size) | exact rF2 | exact rF2.mono (fun _ h => h) h.1.size (Nat.le_refl _))⟩, G⟩)) rfl rfl rfl rfl ?_
 rintro _ w11 - - ⟨a8, c9, rfl, -⟩
 refine V.grun T_ok 1 rfl (V.sel_none rfl) ?_
 refine V.gloadO T_ok (fun w' h => Fk2.gr h.1) rfl rfl rfl rfl rfl rfl ?_
 refine V.gnil ?_
 rintro w12 G13 hH14
 have z15 := V.Fr.size G13
 try replace F_l := F_l.gr G13
 try replace Fk2 := Fk2.gr G13
 replace HG := HG.grow G13
 clear G13
 have F10 : V.Row V.Cod.byte 5 w12 V.None' w3.heap.size w12.heap.size a8 c9 (l ++ numB a.toNat) := by
   obtain ⟨_, _, he, F0⟩ := (V.Hist.here (hH14 3))
   cases he
   exact F0
 clear hH14
 refine V.call (p_number (v := b) F10.sl (fun k hk => by have := hk.2; omega) (by first | omega | (simp only [List.length_take, List.length_drop, List.length_append, List.length_cons, List.length_nil, List.length_replicate, List.length_set, V.length_data, V.S_size]; omega)) (by omega)) rfl rfl rfl ?_
 rintro _ w19 ⟨a16, c17, rfl, F18, G20⟩
 have z21 := V.Fr.size G20
 try replace F_l := F_l.gr G20
 try replace Fk2 := Fk2.gr G20
 try replace F10 := F10.gr G20
 replace HG := HG.grow G20
 clear G20
 refine V.run T_ok 1 rfl ?_
 refine V.nil ?_
 refine V.tN ?_
 refine V.ret ?_
 refine V.done rfl ?_
 rw [show l ++ stB a b = l ++ numB a.toNat ++ numB b.toNat by simp [stB]]
 exact ⟨a16, c17, (by first | rfl | simp only [List.length_set]), F18.re, HG⟩

set_option maxHeartbeats 300000 in
set_option maxRecDepth 10000 in
theorem rsput_spec {w : World}  {a : Int} {b : Int} (ha : a ≤ 9223372036854775807) (hb : b ≤ 9223372036854775807) :
    Meets Try.prog 64 [.agg #[.int .i64 a, .int .i64 b]] w fun r w' => ∃ (ra20 : Option Addr) (rc20 : Nat), r = .slice ra20 (stB a b).length rc20 ∧ V.Row V.Cod.byte 5 w' V.None' w.heap.size w'.heap.size ra20 rc20 (stB a b) ∧ Gr w w' := by
 have hna := numB_len9 ha
 have hnb := numB_len9 hb
 have HG := V.Fr.refl [] w
 refine V.enter (n := 10) Try.func64 rfl rfl (by decide) rfl ?_
 refine V.seq ?_
 refine V.region ?_
 refine V.box rfl rfl rfl rfl ?_
 rintro k1 w3 s5 s6 G4 Fk2
 have z7 := V.Fr.size G4
 replace HG := HG.grow G4
 clear G4
 try simp only [V.cellsL, V.spliceL] at Fk2
 refine V.run T_ok 1 rfl ?_
 refine V.nil ?_
 refine V.tN ?_
 refine V.seq ?_
 refine V.drawGT 5 (V.sel [(2, (fun v wz => ∃ (ra9 : Option Addr) (rc9 : Nat), v = .slice ra9 (numB a.toNat).length rc9 ∧ V.Row V.Cod.byte 5 wz V.None' w3.heap.size wz.heap.size ra9 rc9 (numB a.toNat)))]) mixed (by kernel_rfl) (V.mono_cons (by rintro v wz wz' g ⟨ra9, rc9, rfl, rF9⟩; exact ⟨ra9, rc9, rfl, (by first | exact (rF9.gr g).mono (V.In.sub (Nat.le_refl _) g.size) | exact rF9.gr g | exact (rF9.gr g).mono (fun _ h => h) (Nat.le_refl _) g.size | exact (rF9.gr g).mono (fun k h => ⟨h.1, Nat.lt_of_lt_of_le h.2 g.size⟩))⟩) V.mono_nil) ?_
 refine V.grun T_ok 1 rfl (V.sel_none rfl) ?_
 refine V.gloadO T_ok (fun w' h => Fk2.gr h.1) rfl rfl rfl rfl rfl rfl ?_
 refine V.gcall (fun w' h => (rp_number (v := a) (by omega)).mono (by rintro v w'' ⟨ra9, rc9, rfl, rF9, G⟩; exact ⟨⟨ra9, rc9, rfl, (by first | exact rF9.mono (V.In.mono_l h.1.size) | exact rF9 | exact rF9.mono (fun _ h => h) h.1.size (Nat.le_refl _))⟩, G⟩)) rfl rfl rfl rfl ?_
 rintro _ w11 - - ⟨a8, c9, rfl, -⟩
 refine V.grun T_ok 1 rfl (V.sel_none rfl) ?_
 refine V.gloadO T_ok (fun w' h => Fk2.gr h.1) rfl rfl rfl rfl rfl rfl ?_
 refine V.gnil ?_
 rintro w12 G13 hH14
 have z15 := V.Fr.size G13
 try replace Fk2 := Fk2.gr G13
 replace HG := HG.grow G13
 clear G13
 have F10 : V.Row V.Cod.byte 5 w12 V.None' w3.heap.size w12.heap.size a8 c9 (numB a.toNat) := by
   obtain ⟨_, _, he, F0⟩ := (V.Hist.here (hH14 2))
   cases he
   exact F0
 clear hH14
 refine V.call (rp_number (v := b) (by omega)) rfl rfl rfl ?_
 rintro _ w19 ⟨a16, c17, rfl, F18, G20⟩
 have z21 := V.Fr.size G20
 try replace Fk2 := Fk2.gr G20
 try replace F10 := F10.gr G20
 replace HG := HG.grow G20
 clear G20
 refine V.appendR (F10) (V.From.flat V.flat_byte (D' := V.None') (F18.sl.from Try.underlying22)) elT22_22 rfl rfl rfl rfl rfl (by first | omega | (simp only [List.length_take, List.length_drop, List.length_append, List.length_cons, List.length_nil, List.length_replicate, List.length_set, V.length_data, V.S_size]; omega)) (by unfold maxLen; first | omega | (simp only [List.length_take, List.length_drop, List.length_append, List.length_cons, List.length_nil, List.length_replicate, List.length_set, V.length_data, V.S_size]; omega)) (by omega) (by omega) (fun _ h => h.elim) (fun _ h => h.elim) ?_
 rintro a22 c23 w25 G26 s27 F24
 clear F10
 have z28 := Go.RowKit.Below.size G26
 first | replace Fk2 := V.Cells.bl Fk2 G26 (by omega) | clear Fk2 | skip
 first | replace F18 := V.Row.bl F18 G26 (by first | exact ⟨fun _ h => h.elim, by omega⟩ | exact ⟨fun _ h => by have := h.2; omega, by omega⟩) | clear F18 | skip
 replace HG := HG.bl (Go.RowKit.Below.mono G26 (by omega))
 clear G26
 refine V.run T_ok 1 rfl ?_
 refine V.nil ?_
 refine V.tN ?_
 refine V.ret ?_
 refine V.done rfl ?_
 exact ⟨a22, c23, (by first | rfl | simp only [List.length_set]), F24.re, HG⟩

set_option maxHeartbeats 300000 in
set_option maxRecDepth 10000 in
theorem sget_nil {w : World}    :
    Meets Try.prog 52 [.pointer none] w fun r w' => r = .tuple #[.agg #[.int .i64 0, .int .i64 0], .int .i64 1] ∧ Gr w w' := by
 have HG := V.Fr.refl [] w
 refine V.enter (n := 38) Try.func52 rfl rfl (by decide) rfl ?_
 refine V.seq ?_
 refine V.region ?_
 refine V.alloc zero26 rfl rfl rfl ?_
 rintro k1 w3 s5 s6 G4 Fk2
 have z7 := V.Fr.size G4
 replace HG := HG.grow G4
 clear G4
 try simp only [V.cellsL, V.spliceL] at Fk2
 refine V.run T_ok 1 rfl ?_
 refine V.nil ?_
 refine V.tN ?_
 refine V.seq ?_
 refine V.seq ?_
 refine V.region ?_
 refine V.run T_ok 2 rfl ?_
 refine V.nil ?_
 refine V.tN ?_
 refine V.condY rfl rfl ?_
 refine V.seq ?_
 refine V.region ?_
 refine V.mkStruct T_ok zero26 rfl rfl rfl rfl rfl ?_
 refine V.storeO Fk2 rfl rfl rfl rfl sz26 rfl rfl rfl rfl ?_
 rintro w8 G9 z11 Fs10
 clear Fk2
 have z12 := V.Fr.size G9
 replace HG := HG.n1 G9
 clear G9
 have Fk2 := Fs10; clear Fs10
 simp only [V.spliceL, V.cellsL] at Fk2
 refine V.run T_ok 1 rfl ?_
 refine V.nil ?_
 refine V.tN ?_
 refine V.ret ?_
 refine V.tR ?_
 refine V.done2 rfl (V.resV_cell T_ok Fk2 rfl rfl) (V.resV_tmp rfl) ?_
 exact ⟨(by first | rfl | simp only [List.length_set]), HG⟩

set_option maxHeartbeats 300000 in
set_option maxRecDepth 10000 in
theorem sget_spec {w : World} {k : Nat} {D : Nat → Prop} {d : List UInt8} (FX : Rd w k D d)   :
    Meets Try.prog 52 [.pointer (some ⟨k, 0, none⟩)] w fun r w' => r = .tuple #[.agg #[.int .i64 (((rdS d).1.1).1), .int .i64 (((rdS d).1.1).2)], .int .i64 ((rdS d).1.2)] ∧ Rd w' k D ((rdS d).2) ∧ Fr [k] w w' := by
 have hkl := FX.lt
 have hnk := FX.nk
 replace FX := FX.flb
 have HG := V.Fr.refl [k] w
 refine V.enter (n := 38) Try.func52 rfl rfl (by decide) rfl ?_
 refine V.seq ?_
 refine V.region ?_
 refine V.alloc zero26 rfl rfl rfl ?_
 rintro k1 w3 s5 s6 G4 Fk2
 have z7 := V.Fr.size G4
 try replace FX := FX.gr G4
 replace HG := HG.grow G4
 clear G4
 try simp only [V.cellsL, V.spliceL] at Fk2
 refine V.run T_ok 1 rfl ?_
 refine V.nil ?_
 refine V.tN ?_
 refine V.seq ?_
 refine V.seq ?_
 refine V.region ?_
 refine V.run T_ok 2 rfl ?_
 refine V.nil ?_
 refine V.tN ?_
 refine V.condN rfl rfl ?_
 refine V.skip ?_
 refine V.tN ?_
 refine V.seq ?_
 obtain ⟨a8, c9, F11, F10⟩ := FX.ex
 refine V.region ?_
 refine V.run T_ok 2 rfl ?_
 refine V.loadO T_ok F11 rfl rfl rfl rfl rfl ?_
 refine V.alloc zero92 rfl rfl rfl ?_
 rintro k12 w14 s16 s17 G15 Fk13
 have z18 := V.Fr.size G15
 try replace FX := FX.gr G15
 try replace Fk2 := Fk2.gr G15
 try replace F10 := F10.gr G15
 try replace F11 := F11.gr G15
 replace HG := HG.grow G15
 clear G15
 try simp only [V.cellsL, V.spliceL] at Fk13
 refine V.storeO Fk13 rfl rfl rfl rfl sz92 rfl rfl rfl rfl ?_
 rintro w19 G20 z22 Fs21
 clear Fk13
 have z23 := V.Fr.size G20
 first | replace FX := FX.mv1 G20 (by first | exact ⟨by omega, by assumption⟩ | exact ⟨by omega, fun h => absurd h.1 (by assumption)⟩ | exact ⟨by omega, fun h => absurd h.1.1 (by assumption)⟩ | exact ⟨by omega, fun h => by first | (have h2 := h.1; have h3 := h.2; omega) | (have h2 := h; dsimp only at h2; omega)⟩ | first | omega | exact fun h => h | exact ⟨by omega, fun h => h⟩ | (intro h; first | (have := hD _ h; omega)) | (refine ⟨by omega, ?_⟩; intro h; first | (have := hD _ h; omega))) | clear FX | skip
 first | replace Fk2 := Fk2.mv1 G20 (by omega) | clear Fk2 | skip
 first | replace F10 := F10.ma G20 | clear F10 | skip
 first | replace F11 := F11.mv1 G20 (by omega) | clear F11 | skip
 replace HG := HG.n1 G20
 clear G20
 have Fk13 := Fs21; clear Fs21
 simp only [V.spliceL, V.cellsL] at Fk13
 refine V.nil ?_
 refine V.tN ?_
 refine V.seq ?_
 refine V.region ?_
 refine V.run T_ok 1 rfl ?_
 refine V.call (rd_number (most := 1099511627776) FX) rfl rfl rfl ?_
 rintro _ w25 ⟨rfl, F24, G26⟩
 have z27 := V.Fr.size G26
 first | replace FX := FX.mv1 G26 (by first | exact ⟨by omega, by assumption⟩ | exact ⟨by omega, fun h => absurd h.1 (by assumption)⟩ | exact ⟨by omega, fun h => absurd h.1.1 (by assumption)⟩ | exact ⟨by omega, fun h => by first | (have h2 := h.1; have h3 := h.2; omega) | (have h2 := h; dsimp only at h2; omega)⟩ | first | omega | exact fun h => h | exact ⟨by omega, fun h => h⟩ | (intro h; first | (have := hD _ h; omega)) | (refine ⟨by omega, ?_⟩; intro h; first | (have := hD _ h; omega))) | clear FX | skip
 first | replace Fk2 := Fk2.mv1 G26 (by omega) | clear Fk2 | skip
 first | replace F10 := F10.ma G26 | clear F10 | skip
 first | replace F11 := F11.mv1 G26 (by omega) | clear F11 | skip
 first | replace Fk13 := Fk13.mv1 G26 (by omega) | clear Fk13 | skip
 replace HG := HG.n1 G26
 clear G26
 refine V.run T_ok 5 rfl ?_
 refine V.nil ?_
 refine V.tN ?_
 refine V.seq ?_
 refine V.region ?_
 refine V.run T_ok 1 rfl ?_
 refine V.call (rd_number (most := 65535) F24) rfl rfl rfl ?_
 rintro _ w29 ⟨rfl, F28, G30⟩
 have z31 := V.Fr.size G30
 first | replace Fk2 := Fk2.mv1 G30 (by omega) | clear Fk2 | skip
 first | replace F10 := F10.ma G30 | clear F10 | skip
 first | replace F11 := F11.mv1 G30 (by omega) | clear F11 | skip
 first | replace Fk13 := Fk13.mv1 G30 (by omega) | clear Fk13 | skip
 first | replace F24 := F24.mv1 G30 (by first | exact ⟨by omega, by assumption⟩ | exact ⟨by omega, fun h => absurd h.1 (by assumption)⟩ | exact ⟨by omega, fun h => absurd h.1.1 (by assumption)⟩ | exact ⟨by omega, fun h => by first | (have h2 := h.1; have h3 := h.2; omega) | (have h2 := h; dsimp only at h2; omega)⟩ | first | omega | exact fun h => h | exact ⟨by omega, fun h => h⟩ | (intro h; first | (have := hD _ h; omega)) | (refine ⟨by omega, ?_⟩; intro h; first | (have := hD _ h; omega))) | clear F24 | skip
 replace HG := HG.n1 G30
 clear G30
 refine V.run T_ok 5 rfl ?_
 refine V.nil ?_
 refine V.tN ?_
 refine V.seq ?_
 refine V.seq ?_
 refine V.region ?_
 refine V.run T_ok 3 rfl ?_
 refine V.orG T_ok 2 2 27 rfl rfl rfl rfl rfl rfl rfl rfl ?_
 refine V.nil ?_
 refine V.tN ?_
 refine V.condT rfl (fun h6 => ?_) (fun h6 => ?_)
 ·
  try replace h6 := V.dec h6
  try simp only [V.mk0, V.mk1, V.mk2, V.mk3] at h6
  refine V.seq ?_
  obtain ⟨a32, c33, F35, F34⟩ := F28.ex
  refine V.region ?_
  refine V.run T_ok 1 rfl ?_
  refine V.loadO T_ok Fk13 rfl rfl rfl rfl rfl ?_
  refine V.run T_ok 1 rfl ?_
  refine V.storeO F35 rfl rfl rfl rfl sz92 rfl rfl rfl rfl ?_
  rintro w36 G37 z39 Fs38
  clear F35
  have z40 := V.Fr.size G37
  first | replace Fk2 := Fk2.mv1 G37 (by omega) | clear Fk2 | skip
  first | replace F10 := F10.ma G37 | clear F10 | skip
  first | replace F11 := F11.mv1 G37 (by omega) | clear F11 | skip
  first | replace Fk13 := Fk13.mv1 G37 (by omega) | clear Fk13 | skip
  first | replace F28 := F28.mv1 G37 (by first | exact ⟨by omega, by assumption⟩ | exact ⟨by omega, fun h => absurd h.1 (by assumption)⟩ | exact ⟨by omega, fun h => absurd h.1.1 (by assumption)⟩ | exact ⟨by omega, fun h => by first | (have h2 := h.1; have h3 := h.2; omega) | (have h2 := h; dsimp only at h2; omega)⟩ | first | omega | exact fun h => h | exact ⟨by omega, fun h => h⟩ | (intro h; first | (have := hD _ h; omega)) | (refine ⟨by omega, ?_⟩; intro h; first | (have := hD _ h; omega))) | clear F28 | skip
  first | replace F34 := F34.ma G37 | clear F34 | skip
  replace HG := HG.n1 G37
  clear G37
  have F35 := Fs38; clear Fs38
  simp only [V.spliceL, V.cellsL] at F35
  refine V.nil ?_
  refine V.tN ?_
  refine V.seq ?_
  refine V.region ?_
  refine V.mkStruct T_ok zero26 rfl rfl rfl rfl rfl ?_
  refine V.storeO Fk2 rfl rfl rfl rfl sz26 rfl rfl rfl rfl ?_
  rintro w41 G42 z44 Fs43
  clear Fk2
  have z45 := V.Fr.size G42
  first | replace F10 := F10.ma G42 | clear F10 | skip
  first | replace F11 := F11.mv1 G42 (by omega) | clear F11 | skip
  first | replace Fk13 := Fk13.mv1 G42 (by omega) | clear Fk13 | skip
  first | replace F28 := F28.mv1 G42 (by first | exact ⟨by omega, by assumption⟩ | exact ⟨by omega, fun h => absurd h.1 (by assumption)⟩ | exact ⟨by omega, fun h => absurd h.1.1 (by assumption)⟩ | exact ⟨by omega, fun h => by first | (have h2 := h.1; have h3 := h.2; omega) | (have h2 := h; dsimp only at h2; omega)⟩ | first | omega | exact fun h => h | exact ⟨by omega, fun h => h⟩ | (intro h; first | (have := hD _ h; omega)) | (refine ⟨by omega, ?_⟩; intro h; first | (have := hD _ h; omega))) | clear F28 | skip
  first | replace F34 := F34.ma G42 | clear F34 | skip
  first | replace F35 := F35.mv1 G42 (by omega) | clear F35 | skip
  replace HG := HG.n1 G42
  clear G42
  have Fk2 := Fs43; clear Fs43
  simp only [V.spliceL, V.cellsL] at Fk2
  refine V.run T_ok 1 rfl ?_
  refine V.nil ?_
  refine V.tN ?_
  refine V.ret ?_
  refine V.tR ?_
  refine V.done2 rfl (V.resV_cell T_ok Fk2 rfl rfl) (V.resV_tmp rfl) ?_
  rw [show rdS d = (((0, 0), 11), d) by unfold rdS; simp only; rw [if_pos (by first | assumption | omega)]]
  exact ⟨(by first | rfl | simp only [List.length_set]), ⟨hnk, ⟨_, _, F35, (by first | exact F10 | exact F10.mono (fun k h => hnew k (by have := h.1; omega)) | exact F10.mono (fun k h => h.1))⟩⟩, HG⟩
 ·
  try replace h6 := V.dec h6
  try simp only [V.mk0, V.mk1, V.mk2, V.mk3] at h6
  refine V.skip ?_
  refine V.tN ?_
  refine V.seq ?_
  refine V.region ?_
  refine V.run T_ok 2 rfl ?_
  refine V.mkStruct T_ok zero26 rfl rfl rfl rfl rfl ?_
  refine V.storeO Fk2 rfl rfl rfl rfl sz26 rfl rfl rfl rfl ?_
  rintro w46 G47 z49 Fs48
  clear Fk2
  have z50 := V.Fr.size G47
  first | replace F10 := F10.ma G47 | clear F10 | skip
  first | replace F11 := F11.mv1 G47 (by omega) | clear F11 | skip
  first | replace Fk13 := Fk13.mv1 G47 (by omega) | clear Fk13 | skip
  first | replace F28 := F28.mv1 G47 (by first | exact ⟨by omega, by assumption⟩ | exact ⟨by omega, fun h => absurd h.1 (by assumption)⟩ | exact ⟨by omega, fun h => absurd h.1.1 (by assumption)⟩ | exact ⟨by omega, fun h => by first | (have h2 := h.1; have h3 := h.2; omega) | (have h2 := h; dsimp only at h2; omega)⟩ | first | omega | exact fun h => h | exact ⟨by omega, fun h => h⟩ | (intro h; first | (have := hD _ h; omega)) | (refine ⟨by omega, ?_⟩; intro h; first | (have := hD _ h; omega))) | clear F28 | skip
  replace HG := HG.n1 G47
  clear G47
  have Fk2 := Fs48; clear Fs48
  simp only [V.spliceL, V.cellsL] at Fk2
  refine V.run T_ok 1 rfl ?_
  refine V.nil ?_
  refine V.tN ?_
  refine V.ret ?_
  refine V.done2 rfl (V.resV_cell T_ok Fk2 rfl rfl) (V.resV_tmp rfl) ?_
  rw [show rdS d = (((_, _), 0), _) by unfold rdS; simp only; rw [if_neg (by omega)]]
  exact ⟨(by first | rfl | simp only [List.length_set]), (F28.mono (fun _ h => h.1) hnk), HG⟩


theorem rdS_stB {x y : Int} (h : stR x y) (r : List UInt8) : rdS (stB x y ++ r) = (((x, y), 0), r) := by
  obtain ⟨h1, h2, h3, h4⟩ := h
  have e1 := rdN_num (v := x.toNat) (most := 1099511627776) (by omega) (by omega) (numB y.toNat ++ r)
  have e2 := rdN_num (v := y.toNat) (most := 65535) (by omega) (by omega) r
  rw [Int.toNat_of_nonneg h1] at e1
  rw [Int.toNat_of_nonneg h3] at e2
  unfold rdS
  simp only [stB, List.append_assoc, e1, e2]
  simp
theorem rdS_ok {cs : List UInt8} (h : (rdS cs).1.2 = 0) : ∃ x y r, cs = stB x y ++ r ∧ stR x y ∧ rdS cs = (((x, y), 0), r) := by
  by_cases hc : (rdN cs 1099511627776).1.2 ≠ 0 ∨ (rdN (rdN cs 1099511627776).2 65535).1.2 ≠ 0
  · unfold rdS at h; simp only [hc] at h; simp at h
  · have h1 : (rdN cs 1099511627776).1.2 = 0 := by omega
    have h2 : (rdN (rdN cs 1099511627776).2 65535).1.2 = 0 := by omega
    obtain ⟨u, r1, e1, l1, m1, n1⟩ := rdN_ok h1
    rw [n1] at h2
    obtain ⟨v, r2, e2, l2, m2, n2⟩ := rdN_ok h2
    have hR : stR (u : Int) (v : Int) := ⟨by omega, by omega, by omega, by omega⟩
    have e : cs = stB (u : Int) (v : Int) ++ r2 := by
      dsimp only at e2
      rw [e1, e2]; simp [stB]
    exact ⟨u, v, r2, e, hR, by conv => lhs; rw [e]
                               exact rdS_stB hR r2⟩
theorem rdS_bad {cs : List UInt8} (h : (rdS cs).1.2 ≠ 0) : rdS cs = (((0, 0), 11), cs) := by
  by_cases hc : (rdN cs 1099511627776).1.2 ≠ 0 ∨ (rdN (rdN cs 1099511627776).2 65535).1.2 ≠ 0
  · unfold rdS; simp only [hc]; simp
  · unfold rdS at h; simp only [hc] at h; simp at h


/-- how many bytes a stamp has that is read -/
def rdSC (cs : List UInt8) : Nat :=
  let x := rdN cs 1099511627776
  let y := rdN x.2 65535
  if x.1.2 ≠ 0 ∨ y.1.2 ≠ 0 then 0 else rdC cs 1099511627776 + rdC x.2 65535
theorem rdS_snd (cs : List UInt8) : (rdS cs).2 = cs.drop (rdSC cs) := by
  unfold rdS rdSC; dsimp only
  split
  · simp
  · rw [rdN_snd (rdN cs 1099511627776).2, rdN_snd cs, List.drop_drop]
theorem rdSC_le (cs : List UInt8) : rdSC cs ≤ cs.length := by
  have h1 := rdC_le cs 1099511627776
  have h2 := rdC_le (rdN cs 1099511627776).2 65535
  rw [rdN_snd cs, List.length_drop] at h2
  unfold rdSC; dsimp only
  split
  · omega
  · rw [rdN_snd cs]; omega
def rfS (d : RfV) : RfV := ⟨d.bs, d.i + rdSC (d.bs.drop d.i), d.bad || decide ((rdS (d.bs.drop d.i)).1.2 ≠ 0)⟩
theorem rfN_next (d : RfV) (m : Int) : (rfN d m).bs.drop (rfN d m).i = (rdN (d.bs.drop d.i) m).2 := by
  rw [rdN_snd]; simp [rfN, List.drop_drop]
theorem rfS_ok {d : RfV} (h : ¬ ((rdN (d.bs.drop d.i) 1099511627776).1.2 ≠ 0 ∨ (rdN (rdN (d.bs.drop d.i) 1099511627776).2 65535).1.2 ≠ 0)) : rfS d = rfN (rfN d 1099511627776) 65535 ∧ rdS (d.bs.drop d.i) = ((((rdN (d.bs.drop d.i) 1099511627776).1.1, (rdN (rdN (d.bs.drop d.i) 1099511627776).2 65535).1.1), 0), (rdN (rdN (d.bs.drop d.i) 1099511627776).2 65535).2) := by
  have e1 : rdS (d.bs.drop d.i) = ((((rdN (d.bs.drop d.i) 1099511627776).1.1, (rdN (rdN (d.bs.drop d.i) 1099511627776).2 65535).1.1), 0), (rdN (rdN (d.bs.drop d.i) 1099511627776).2 65535).2) := by unfold rdS; dsimp only; rw [if_neg h]
  refine ⟨?_, e1⟩
  have e2 : rdSC (d.bs.drop d.i) = rdC (d.bs.drop d.i) 1099511627776 + rdC (rdN (d.bs.drop d.i) 1099511627776).2 65535 := by unfold rdSC; dsimp only; rw [if_neg h]
  unfold rfS
  rw [e1, e2]
  show _ = RfV.mk _ _ _
  rw [rfN_next]
  have h1 : (rdN (d.bs.drop d.i) 1099511627776).1.2 = 0 := by omega
  have h2 : (rdN (rdN (d.bs.drop d.i) 1099511627776).2 65535).1.2 = 0 := by omega
  simp [rfN, h1, h2, Nat.add_assoc]
theorem rfS_bad {d : RfV} (h : (rdN (d.bs.drop d.i) 1099511627776).1.2 ≠ 0 ∨ (rdN (rdN (d.bs.drop d.i) 1099511627776).2 65535).1.2 ≠ 0) : rfS d = ⟨d.bs, d.i, true⟩ ∧ rdS (d.bs.drop d.i) = (((0, 0), 11), d.bs.drop d.i) := by
  have e1 : rdS (d.bs.drop d.i) = (((0, 0), 11), d.bs.drop d.i) := by unfold rdS; dsimp only; rw [if_pos h]
  have e2 : rdSC (d.bs.drop d.i) = 0 := by unfold rdSC; dsimp only; rw [if_pos h]
  refine ⟨?_, e1⟩
  unfold rfS
  rw [e1, e2]; simp

set_option maxHeartbeats 300000 in
set_option maxRecDepth 10000 in
theorem rsget_spec {w : World} {k : Nat} {D : Nat → Prop} {d : RfV} (FX : Rf w k D d)   :
    Meets Try.prog 58 [.pointer (some ⟨k, 0, none⟩)] w fun r w' => r = .tuple #[.agg #[.int .i64 (((rdS (d.bs.drop d.i)).1.1).1), .int .i64 (((rdS (d.bs.drop d.i)).1.1).2)], .int .i64 ((rdS (d.bs.drop d.i)).1.2)] ∧ Rf w' k D (rfS d) ∧ Fr [k] w w' := by
 have hkl := FX.lt
 have hnk := FX.nk
 replace FX := FX.flb
 have hle := FX.le
 have HG := V.Fr.refl [k] w
 refine V.enter (n := 40) Try.func58 rfl rfl (by decide) rfl ?_
 refine V.seq ?_
 refine V.region ?_
 refine V.alloc zero26 rfl rfl rfl ?_
 rintro k1 w3 s5 s6 G4 Fk2
 have z7 := V.Fr.size G4
 try replace FX := FX.gr G4
 replace HG := HG.grow G4
 clear G4
 try simp only [V.cellsL, V.spliceL] at Fk2
 refine V.run T_ok 1 rfl ?_
 refine V.nil ?_
 refine V.tN ?_
 refine V.seq ?_
 obtain ⟨a8, c9, F11, F10⟩ := FX.ex
 refine V.region ?_
 refine V.run T_ok 3 rfl ?_
 refine V.loadO T_ok F11 rfl rfl rfl rfl rfl ?_
 refine V.run T_ok 1 rfl ?_
 refine V.nil ?_
 refine V.tN ?_
 refine V.seq ?_
 refine V.region ?_
 refine V.run T_ok 1 rfl ?_
 refine V.call (rf_number (most := 1099511627776) FX) rfl rfl rfl ?_
 rintro _ w13 ⟨rfl, F12, G14⟩
 have z15 := V.Fr.size G14
 first | replace FX := FX.mv1 G14 (by first | exact ⟨by omega, by assumption⟩ | exact ⟨by omega, fun h => absurd h.1 (by assumption)⟩ | exact ⟨by omega, fun h => absurd h.1.1 (by assumption)⟩ | exact ⟨by omega, fun h => by first | (have h2 := h.1; have h3 := h.2; omega) | (have h2 := h; dsimp only at h2; omega)⟩ | first | omega | exact fun h => h | exact ⟨by omega, fun h => h⟩ | (intro h; first | (have := hD _ h; omega)) | (refine ⟨by omega, ?_⟩; intro h; first | (have := hD _ h; omega))) | clear FX | skip
 first | replace Fk2 := Fk2.mv1 G14 (by omega) | clear Fk2 | skip
 first | replace F10 := F10.ma G14 | clear F10 | skip
 first | replace F11 := F11.mv1 G14 (by omega) | clear F11 | skip
 replace HG := HG.n1 G14
 clear G14
 refine V.run T_ok 5 rfl ?_
 refine V.nil ?_
 refine V.tN ?_
 refine V.seq ?_
 refine V.region ?_
 refine V.run T_ok 1 rfl ?_
 refine V.call (rf_number (most := 65535) F12) rfl rfl rfl ?_
 rintro _ w17 ⟨rfl, F16, G18⟩
 have z19 := V.Fr.size G18
 first | replace Fk2 := Fk2.mv1 G18 (by omega) | clear Fk2 | skip
 first | replace F10 := F10.ma G18 | clear F10 | skip
 first | replace F11 := F11.mv1 G18 (by omega) | clear F11 | skip
 first | replace F12 := F12.mv1 G18 (by first | exact ⟨by omega, by assumption⟩ | exact ⟨by omega, fun h => absurd h.1 (by assumption)⟩ | exact ⟨by omega, fun h => absurd h.1.1 (by assumption)⟩ | exact ⟨by omega, fun h => by first | (have h2 := h.1; have h3 := h.2; omega) | (have h2 := h; dsimp only at h2; omega)⟩ | first | omega | exact fun h => h | exact ⟨by omega, fun h => h⟩ | (intro h; first | (have := hD _ h; omega)) | (refine ⟨by omega, ?_⟩; intro h; first | (have := hD _ h; omega))) | clear F12 | skip
 replace HG := HG.n1 G18
 clear G18
 refine V.run T_ok 5 rfl ?_
 refine V.nil ?_
 refine V.tN ?_
 refine V.seq ?_
 refine V.seq ?_
 refine V.region ?_
 refine V.run T_ok 3 rfl ?_
 refine V.orG T_ok 2 2 25 rfl rfl rfl rfl rfl rfl rfl rfl ?_
 refine V.nil ?_
 refine V.tN ?_
 refine V.condT rfl (fun h4 => ?_) (fun h4 => ?_)
 ·
  try replace h4 := V.dec h4
  try simp only [V.mk0, V.mk1, V.mk2, V.mk3] at h4
  refine V.seq ?_
  obtain ⟨a20, c21, F23, F22⟩ := F16.ex
  refine V.region ?_
  refine V.run T_ok 4 rfl ?_
  refine V.storeO F23 rfl rfl rfl rfl sz3 rfl rfl rfl rfl ?_
  rintro w24 G25 z27 Fs26
  clear F23
  have z28 := V.Fr.size G25
  first | replace Fk2 := Fk2.mv1 G25 (by omega) | clear Fk2 | skip
  first | replace F10 := F10.ma G25 | clear F10 | skip
  first | replace F11 := F11.mv1 G25 (by omega) | clear F11 | skip
  first | replace F16 := F16.mv1 G25 (by first | exact ⟨by omega, by assumption⟩ | exact ⟨by omega, fun h => absurd h.1 (by assumption)⟩ | exact ⟨by omega, fun h => absurd h.1.1 (by assumption)⟩ | exact ⟨by omega, fun h => by first | (have h2 := h.1; have h3 := h.2; omega) | (have h2 := h; dsimp only at h2; omega)⟩ | first | omega | exact fun h => h | exact ⟨by omega, fun h => h⟩ | (intro h; first | (have := hD _ h; omega)) | (refine ⟨by omega, ?_⟩; intro h; first | (have := hD _ h; omega))) | clear F16 | skip
  first | replace F22 := F22.ma G25 | clear F22 | skip
  replace HG := HG.n1 G25
  clear G25
  have F23 := Fs26; clear Fs26
  simp only [V.spliceL, V.cellsL] at F23
  refine V.nil ?_
  refine V.tN ?_
  refine V.seq ?_
  refine V.region ?_
  refine V.run T_ok 3 rfl ?_
  refine V.storeO F23 rfl rfl rfl rfl sz4 rfl rfl rfl rfl ?_
  rintro w29 G30 z32 Fs31
  clear F23
  have z33 := V.Fr.size G30
  first | replace Fk2 := Fk2.mv1 G30 (by omega) | clear Fk2 | skip
  first | replace F10 := F10.ma G30 | clear F10 | skip
  first | replace F11 := F11.mv1 G30 (by omega) | clear F11 | skip
  first | replace F16 := F16.mv1 G30 (by first | exact ⟨by omega, by assumption⟩ | exact ⟨by omega, fun h => absurd h.1 (by assumption)⟩ | exact ⟨by omega, fun h => absurd h.1.1 (by assumption)⟩ | exact ⟨by omega, fun h => by first | (have h2 := h.1; have h3 := h.2; omega) | (have h2 := h; dsimp only at h2; omega)⟩ | first | omega | exact fun h => h | exact ⟨by omega, fun h => h⟩ | (intro h; first | (have := hD _ h; omega)) | (refine ⟨by omega, ?_⟩; intro h; first | (have := hD _ h; omega))) | clear F16 | skip
  first | replace F22 := F22.ma G30 | clear F22 | skip
  replace HG := HG.n1 G30
  clear G30
  have F23 := Fs31; clear Fs31
  simp only [V.spliceL, V.cellsL] at F23
  refine V.nil ?_
  refine V.tN ?_
  refine V.seq ?_
  refine V.region ?_
  refine V.mkStruct T_ok zero26 rfl rfl rfl rfl rfl ?_
  refine V.storeO Fk2 rfl rfl rfl rfl sz26 rfl rfl rfl rfl ?_
  rintro w34 G35 z37 Fs36
  clear Fk2
  have z38 := V.Fr.size G35
  first | replace F10 := F10.ma G35 | clear F10 | skip
  first | replace F11 := F11.mv1 G35 (by omega) | clear F11 | skip
  first | replace F16 := F16.mv1 G35 (by first | exact ⟨by omega, by assumption⟩ | exact ⟨by omega, fun h => absurd h.1 (by assumption)⟩ | exact ⟨by omega, fun h => absurd h.1.1 (by assumption)⟩ | exact ⟨by omega, fun h => by first | (have h2 := h.1; have h3 := h.2; omega) | (have h2 := h; dsimp only at h2; omega)⟩ | first | omega | exact fun h => h | exact ⟨by omega, fun h => h⟩ | (intro h; first | (have := hD _ h; omega)) | (refine ⟨by omega, ?_⟩; intro h; first | (have := hD _ h; omega))) | clear F16 | skip
  first | replace F22 := F22.ma G35 | clear F22 | skip
  first | replace F23 := F23.mv1 G35 (by omega) | clear F23 | skip
  replace HG := HG.n1 G35
  clear G35
  have Fk2 := Fs36; clear Fs36
  simp only [V.spliceL, V.cellsL] at Fk2
  refine V.run T_ok 1 rfl ?_
  refine V.nil ?_
  refine V.tN ?_
  refine V.ret ?_
  refine V.tR ?_
  refine V.done2 rfl (V.resV_cell T_ok Fk2 rfl rfl) (V.resV_tmp rfl) ?_
  obtain ⟨e1, e2⟩ := rfS_bad (d := d) (by rw [← rfN_next d]; omega)
  rw [e1, e2]
  exact ⟨(by first | rfl | simp only [List.length_set]), ⟨hnk, ⟨_, _, F23, (by first | exact F22 | exact F22.mono (fun k h => hnew k (by have := h.1; omega)) | exact F22.mono (fun k h => h.1))⟩, hle⟩, HG⟩
 ·
  try replace h4 := V.dec h4
  try simp only [V.mk0, V.mk1, V.mk2, V.mk3] at h4
  refine V.skip ?_
  refine V.tN ?_
  refine V.seq ?_
  refine V.region ?_
  refine V.run T_ok 2 rfl ?_
  refine V.mkStruct T_ok zero26 rfl rfl rfl rfl rfl ?_
  refine V.storeO Fk2 rfl rfl rfl rfl sz26 rfl rfl rfl rfl ?_
  rintro w39 G40 z42 Fs41
  clear Fk2
  have z43 := V.Fr.size G40
  first | replace F10 := F10.ma G40 | clear F10 | skip
  first | replace F11 := F11.mv1 G40 (by omega) | clear F11 | skip
  first | replace F16 := F16.mv1 G40 (by first | exact ⟨by omega, by assumption⟩ | exact ⟨by omega, fun h => absurd h.1 (by assumption)⟩ | exact ⟨by omega, fun h => absurd h.1.1 (by assumption)⟩ | exact ⟨by omega, fun h => by first | (have h2 := h.1; have h3 := h.2; omega) | (have h2 := h; dsimp only at h2; omega)⟩ | first | omega | exact fun h => h | exact ⟨by omega, fun h => h⟩ | (intro h; first | (have := hD _ h; omega)) | (refine ⟨by omega, ?_⟩; intro h; first | (have := hD _ h; omega))) | clear F16 | skip
  replace HG := HG.n1 G40
  clear G40
  have Fk2 := Fs41; clear Fs41
  simp only [V.spliceL, V.cellsL] at Fk2
  refine V.run T_ok 1 rfl ?_
  refine V.nil ?_
  refine V.tN ?_
  refine V.ret ?_
  refine V.done2 rfl (V.resV_cell T_ok Fk2 rfl rfl) (V.resV_tmp rfl) ?_
  obtain ⟨e1, e2⟩ := rfS_ok (d := d) (by rw [← rfN_next d]; omega)
  rw [e1, e2, rfN_next d]
  exact ⟨(by first | rfl | simp only [List.length_set]), (F16.mono (fun _ h => h.1) hnk), HG⟩

set_option maxHeartbeats 300000 in
set_option maxRecDepth 10000 in
theorem rsg_spec {w : World} {k : Nat} {D : Nat → Prop} {d : RfV} (FX : Rf w k D d)   :
    Meets Try.prog 31 [.pointer (some ⟨k, 0, none⟩)] w fun r w' => r = .agg #[.int .i64 (((rdS (d.bs.drop d.i)).1.1).1), .int .i64 (((rdS (d.bs.drop d.i)).1.1).2)] ∧ Rf w' k D (rfS d) ∧ Fr [k] w w' := by
 have hkl := FX.lt
 have hnk := FX.nk
 replace FX := FX.flb
 have HG := V.Fr.refl [k] w
 refine V.enter (n := 11) Try.func31 rfl rfl (by decide) rfl ?_
 refine V.seq ?_
 refine V.region ?_
 refine V.alloc zero26 rfl rfl rfl ?_
 rintro k1 w3 s5 s6 G4 Fk2
 have z7 := V.Fr.size G4
 try replace FX := FX.gr G4
 replace HG := HG.grow G4
 clear G4
 try simp only [V.cellsL, V.spliceL] at Fk2
 refine V.nil ?_
 refine V.tN ?_
 refine V.seq ?_
 refine V.region ?_
 refine V.run T_ok 1 rfl ?_
 refine V.call (rsget_spec FX) rfl rfl rfl ?_
 rintro _ w9 ⟨rfl, F8, G10⟩
 have z11 := V.Fr.size G10
 first | replace FX := FX.mv1 G10 (by first | exact ⟨by omega, by assumption⟩ | exact ⟨by omega, fun h => absurd h.1 (by assumption)⟩ | exact ⟨by omega, fun h => absurd h.1.1 (by assumption)⟩ | exact ⟨by omega, fun h => by first | (have h2 := h.1; have h3 := h.2; omega) | (have h2 := h; dsimp only at h2; omega)⟩ | first | omega | exact fun h => h | exact ⟨by omega, fun h => h⟩ | (intro h; first | (have := hD _ h; omega)) | (refine ⟨by omega, ?_⟩; intro h; first | (have := hD _ h; omega))) | clear FX | skip
 first | replace Fk2 := Fk2.mv1 G10 (by omega) | clear Fk2 | skip
 replace HG := HG.n1 G10
 clear G10
 refine V.run T_ok 3 rfl ?_
 refine V.alloc zero26 rfl rfl rfl ?_
 rintro k12 w14 s16 s17 G15 Fk13
 have z18 := V.Fr.size G15
 try replace Fk2 := Fk2.gr G15
 try replace F8 := F8.gr G15
 replace HG := HG.grow G15
 clear G15
 try simp only [V.cellsL, V.spliceL] at Fk13
 refine V.storeO Fk13 rfl rfl rfl rfl sz26 rfl rfl rfl rfl ?_
 rintro w19 G20 z22 Fs21
 clear Fk13
 have z23 := V.Fr.size G20
 first | replace Fk2 := Fk2.mv1 G20 (by omega) | clear Fk2 | skip
 first | replace F8 := F8.mv1 G20 (by first | exact ⟨by omega, by assumption⟩ | exact ⟨by omega, fun h => absurd h.1 (by assumption)⟩ | exact ⟨by omega, fun h => absurd h.1.1 (by assumption)⟩ | exact ⟨by omega, fun h => by first | (have h2 := h.1; have h3 := h.2; omega) | (have h2 := h; dsimp only at h2; omega)⟩ | first | omega | exact fun h => h | exact ⟨by omega, fun h => h⟩ | (intro h; first | (have := hD _ h; omega)) | (refine ⟨by omega, ?_⟩; intro h; first | (have := hD _ h; omega))) | clear F8 | skip
 replace HG := HG.n1 G20
 clear G20
 have Fk13 := Fs21; clear Fs21
 simp only [V.spliceL, V.cellsL] at Fk13
 refine V.run T_ok 1 rfl ?_
 refine V.nil ?_
 refine V.tN ?_
 refine V.seq ?_
 refine V.region ?_
 refine V.loadO T_ok Fk13 rfl rfl rfl rfl rfl ?_
 refine V.storeO Fk2 rfl rfl rfl rfl sz26 rfl rfl rfl rfl ?_
 rintro w24 G25 z27 Fs26
 clear Fk2
 have z28 := V.Fr.size G25
 first | replace F8 := F8.mv1 G25 (by first | exact ⟨by omega, by assumption⟩ | exact ⟨by omega, fun h => absurd h.1 (by assumption)⟩ | exact ⟨by omega, fun h => absurd h.1.1 (by assumption)⟩ | exact ⟨by omega, fun h => by first | (have h2 := h.1; have h3 := h.2; omega) | (have h2 := h; dsimp only at h2; omega)⟩ | first | omega | exact fun h => h | exact ⟨by omega, fun h => h⟩ | (intro h; first | (have := hD _ h; omega)) | (refine ⟨by omega, ?_⟩; intro h; first | (have := hD _ h; omega))) | clear F8 | skip
 first | replace Fk13 := Fk13.mv1 G25 (by omega) | clear Fk13 | skip
 replace HG := HG.n1 G25
 clear G25
 have Fk2 := Fs26; clear Fs26
 simp only [V.spliceL, V.cellsL] at Fk2
 refine V.nil ?_
 refine V.tN ?_
 refine V.ret ?_
 refine V.done1 rfl (V.resV_cell T_ok Fk2 rfl rfl) ?_
 exact ⟨(by first | rfl | simp only [List.length_set]), (F8.mono (fun _ h => h.1) hnk), HG⟩

end Go.Proofs.Ytkklebdlbmoogaa
