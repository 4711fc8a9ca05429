/- Proved here: walks: what functions of this seat's program return and what they leave of memory, each as a contract. Conditions: stated at each theorem. -/
import Derived.Test.YtbpfojlnndkaoaaDoorMst
namespace Go.Proofs.YtbpfojlnndkaoaaDoor
set_option linter.unusedVariables false
set_option linter.unusedSimpArgs false
open Go
open V (Bytes Meets Env Sl Own Gr Fr Cells S)
set_option maxHeartbeats 400000 in
set_option maxRecDepth 10000 in
theorem small_12 {w : World}    :
    Meets Tryd.prog 45 [.int .i64 12] w fun r w' => r = .string (S [49, 50]) ∧ w = w' := by
 refine V.enter (n := 15) Tryd.func45 rfl rfl (by decide) rfl ?_
 refine V.seq ?_
 refine V.region ?_
 refine V.run T_ok 1 rfl ?_
 refine V.nil ?_
 refine V.tN ?_
 refine V.seq ?_
 refine V.seq ?_
 refine V.region ?_
 refine V.run T_ok 2 rfl ?_
 refine V.nil ?_
 refine V.tN ?_
 refine V.condN rfl rfl ?_
 refine V.skip ?_
 refine V.tN ?_
 refine V.seq ?_
 refine V.region ?_
 refine V.run T_ok 1 rfl ?_
 refine V.mulN rfl rfl rfl rfl rfl (by first | omega | (simp only [List.length_take, List.length_drop, List.length_append, List.length_cons, List.length_nil, List.length_replicate, List.length_set, V.length_data, V.S_size]; omega)) (by first | omega | (simp only [List.length_take, List.length_drop, List.length_append, List.length_cons, List.length_nil, List.length_replicate, List.length_set, V.length_data, V.S_size]; omega)) ?_
 refine V.run T_ok 1 rfl ?_
 refine V.mulN rfl rfl rfl rfl rfl (by first | omega | (simp only [List.length_take, List.length_drop, List.length_append, List.length_cons, List.length_nil, List.length_replicate, List.length_set, V.length_data, V.S_size]; omega)) (by first | omega | (simp only [List.length_take, List.length_drop, List.length_append, List.length_cons, List.length_nil, List.length_replicate, List.length_set, V.length_data, V.S_size]; omega)) ?_
 refine V.addN rfl rfl rfl rfl rfl (by first | omega | (simp only [List.length_take, List.length_drop, List.length_append, List.length_cons, List.length_nil, List.length_replicate, List.length_set, V.length_data, V.S_size]; omega)) (by first | omega | (simp only [List.length_take, List.length_drop, List.length_append, List.length_cons, List.length_nil, List.length_replicate, List.length_set, V.length_data, V.S_size]; omega)) ?_
 refine V.scut Tryd.underlying9 rfl rfl rfl rfl rfl rfl rfl rfl (by decide) (by decide) (by decide) ?_
 refine V.run T_ok 1 rfl ?_
 refine V.nil ?_
 refine V.tN ?_
 refine V.ret ?_
 refine V.done rfl ?_
 exact ⟨(by first | rfl | decide +kernel), rfl⟩

set_option maxHeartbeats 400000 in
set_option maxRecDepth 10000 in
theorem format_12 {w : World}    :
    Meets Tryd.prog 44 [.int .i64 12, .int .i64 10] w fun r w' => r = .string (S [49, 50]) ∧ w = w' := by
 refine V.enter (n := 54) Tryd.func44 rfl rfl (by decide) rfl ?_
 refine V.seq ?_
 refine V.region ?_
 refine V.run T_ok 1 rfl ?_
 refine V.nil ?_
 refine V.tN ?_
 refine V.seq ?_
 refine V.seq ?_
 refine V.region ?_
 refine V.run T_ok 2 rfl ?_
 refine V.nil ?_
 refine V.tN ?_
 refine V.condY rfl rfl ?_
 refine V.seq ?_
 refine V.seq ?_
 refine V.region ?_
 refine V.run T_ok 6 rfl ?_
 refine V.nil ?_
 refine V.tN ?_
 refine V.condY rfl rfl ?_
 refine V.seq ?_
 refine V.region ?_
 refine V.run T_ok 1 rfl ?_
 refine V.call (small_12) rfl rfl rfl ?_
 rintro _ w_ ⟨rfl, rfl⟩
 refine V.run T_ok 1 rfl ?_
 refine V.nil ?_
 refine V.tN ?_
 refine V.ret ?_
 refine V.tR ?_
 refine V.tR ?_
 refine V.done rfl ?_
 exact ⟨(by first | rfl | decide +kernel), rfl⟩

set_option maxHeartbeats 400000 in
set_option maxRecDepth 10000 in
theorem iitoa_12 {w : World}    :
    Meets Tryd.prog 40 [.int .i64 12] w fun r w' => r = .string (S [49, 50]) ∧ w = w' := by
 refine V.enter (n := 5) Tryd.func40 rfl rfl (by decide) rfl ?_
 refine V.seq ?_
 refine V.region ?_
 refine V.run T_ok 1 rfl ?_
 refine V.nil ?_
 refine V.tN ?_
 refine V.seq ?_
 refine V.region ?_
 refine V.run T_ok 1 rfl ?_
 refine V.call (format_12) rfl rfl rfl ?_
 rintro _ w_ ⟨rfl, rfl⟩
 refine V.run T_ok 1 rfl ?_
 refine V.nil ?_
 refine V.tN ?_
 refine V.ret ?_
 refine V.done rfl ?_
 exact ⟨(by first | rfl | decide +kernel), rfl⟩

set_option maxHeartbeats 400000 in
set_option maxRecDepth 10000 in
theorem itoa_12 {w : World}    :
    Meets Tryd.prog 30 [.int .i64 12] w fun r w' => r = .string (S [49, 50]) ∧ w = w' := by
 refine V.enter (n := 5) Tryd.func30 rfl rfl (by decide) rfl ?_
 refine V.seq ?_
 refine V.region ?_
 refine V.run T_ok 1 rfl ?_
 refine V.nil ?_
 refine V.tN ?_
 refine V.seq ?_
 refine V.region ?_
 refine V.run T_ok 1 rfl ?_
 refine V.call (iitoa_12) rfl rfl rfl ?_
 rintro _ w_ ⟨rfl, rfl⟩
 refine V.run T_ok 1 rfl ?_
 refine V.nil ?_
 refine V.tN ?_
 refine V.ret ?_
 refine V.done rfl ?_
 exact ⟨(by first | rfl | decide +kernel), rfl⟩

set_option maxHeartbeats 400000 in
set_option maxRecDepth 10000 in
theorem small_3 {w : World}    :
    Meets Tryd.prog 45 [.int .i64 3] w fun r w' => r = .string (S [51]) ∧ w = w' := by
 refine V.enter (n := 15) Tryd.func45 rfl rfl (by decide) rfl ?_
 refine V.seq ?_
 refine V.region ?_
 refine V.run T_ok 1 rfl ?_
 refine V.nil ?_
 refine V.tN ?_
 refine V.seq ?_
 refine V.seq ?_
 refine V.region ?_
 refine V.run T_ok 2 rfl ?_
 refine V.nil ?_
 refine V.tN ?_
 refine V.condY rfl rfl ?_
 refine V.seq ?_
 refine V.region ?_
 refine V.run T_ok 2 rfl ?_
 refine V.addN rfl rfl rfl rfl rfl (by first | omega | (simp only [List.length_take, List.length_drop, List.length_append, List.length_cons, List.length_nil, List.length_replicate, List.length_set, V.length_data, V.S_size]; omega)) (by first | omega | (simp only [List.length_take, List.length_drop, List.length_append, List.length_cons, List.length_nil, List.length_replicate, List.length_set, V.length_data, V.S_size]; omega)) ?_
 refine V.scut Tryd.underlying9 rfl rfl rfl rfl rfl rfl rfl rfl (by decide) (by decide) (by decide) ?_
 refine V.run T_ok 1 rfl ?_
 refine V.nil ?_
 refine V.tN ?_
 refine V.ret ?_
 refine V.tR ?_
 refine V.done rfl ?_
 exact ⟨(by first | rfl | decide +kernel), rfl⟩

set_option maxHeartbeats 400000 in
set_option maxRecDepth 10000 in
theorem format_3 {w : World}    :
    Meets Tryd.prog 44 [.int .i64 3, .int .i64 10] w fun r w' => r = .string (S [51]) ∧ w = w' := by
 refine V.enter (n := 54) Tryd.func44 rfl rfl (by decide) rfl ?_
 refine V.seq ?_
 refine V.region ?_
 refine V.run T_ok 1 rfl ?_
 refine V.nil ?_
 refine V.tN ?_
 refine V.seq ?_
 refine V.seq ?_
 refine V.region ?_
 refine V.run T_ok 2 rfl ?_
 refine V.nil ?_
 refine V.tN ?_
 refine V.condY rfl rfl ?_
 refine V.seq ?_
 refine V.seq ?_
 refine V.region ?_
 refine V.run T_ok 6 rfl ?_
 refine V.nil ?_
 refine V.tN ?_
 refine V.condY rfl rfl ?_
 refine V.seq ?_
 refine V.region ?_
 refine V.run T_ok 1 rfl ?_
 refine V.call (small_3) rfl rfl rfl ?_
 rintro _ w_ ⟨rfl, rfl⟩
 refine V.run T_ok 1 rfl ?_
 refine V.nil ?_
 refine V.tN ?_
 refine V.ret ?_
 refine V.tR ?_
 refine V.tR ?_
 refine V.done rfl ?_
 exact ⟨(by first | rfl | decide +kernel), rfl⟩

set_option maxHeartbeats 400000 in
set_option maxRecDepth 10000 in
theorem iitoa_3 {w : World}    :
    Meets Tryd.prog 40 [.int .i64 3] w fun r w' => r = .string (S [51]) ∧ w = w' := by
 refine V.enter (n := 5) Tryd.func40 rfl rfl (by decide) rfl ?_
 refine V.seq ?_
 refine V.region ?_
 refine V.run T_ok 1 rfl ?_
 refine V.nil ?_
 refine V.tN ?_
 refine V.seq ?_
 refine V.region ?_
 refine V.run T_ok 1 rfl ?_
 refine V.call (format_3) rfl rfl rfl ?_
 rintro _ w_ ⟨rfl, rfl⟩
 refine V.run T_ok 1 rfl ?_
 refine V.nil ?_
 refine V.tN ?_
 refine V.ret ?_
 refine V.done rfl ?_
 exact ⟨(by first | rfl | decide +kernel), rfl⟩

set_option maxHeartbeats 400000 in
set_option maxRecDepth 10000 in
theorem itoa_3 {w : World}    :
    Meets Tryd.prog 30 [.int .i64 3] w fun r w' => r = .string (S [51]) ∧ w = w' := by
 refine V.enter (n := 5) Tryd.func30 rfl rfl (by decide) rfl ?_
 refine V.seq ?_
 refine V.region ?_
 refine V.run T_ok 1 rfl ?_
 refine V.nil ?_
 refine V.tN ?_
 refine V.seq ?_
 refine V.region ?_
 refine V.run T_ok 1 rfl ?_
 refine V.call (iitoa_3) rfl rfl rfl ?_
 rintro _ w_ ⟨rfl, rfl⟩
 refine V.run T_ok 1 rfl ?_
 refine V.nil ?_
 refine V.tN ?_
 refine V.ret ?_
 refine V.done rfl ?_
 exact ⟨(by first | rfl | decide +kernel), rfl⟩

set_option maxHeartbeats 400000 in
set_option maxRecDepth 10000 in
theorem text_lit {w : World}    :
    Meets Tryd.prog 9 [.agg #[.int .i64 12, .int .i64 3]] w fun r w' => r = .string (S [49, 50, 46, 51]) ∧ Gr w w' := by
 have HG := V.Fr.refl [] w
 refine V.enter (n := 11) Tryd.func9 rfl rfl (by decide) rfl ?_
 refine V.seq ?_
 refine V.region ?_
 refine V.box rfl rfl rfl rfl ?_
 rintro k1 w3 s5 s6 G4 Fk2
 have z7 := V.Fr.size G4
 replace HG := HG.grow G4
 clear G4
 try simp only [V.cellsL, V.spliceL] at Fk2
 refine V.run T_ok 1 rfl ?_
 refine V.nil ?_
 refine V.tN ?_
 refine V.seq ?_
 refine V.drawQ mixed (by kernel_rfl) ?_
 refine V.qrun T_ok 1 rfl ?_
 refine V.qloadO T_ok Fk2 rfl rfl rfl rfl rfl ?_
 refine V.qcall V.clo (fun w1 g => V.Meets.gr' (itoa_12)) rfl rfl rfl ?_
 refine V.qscat rfl rfl rfl rfl rfl (by decide) ?_
 refine V.qrun T_ok 1 rfl ?_
 refine V.qloadO T_ok Fk2 rfl rfl rfl rfl rfl ?_
 refine V.qcall V.clo (fun w1 g => V.Meets.gr' (itoa_3)) rfl rfl rfl ?_
 refine V.qscat rfl rfl rfl rfl rfl (by decide) ?_
 refine V.qrun T_ok 1 rfl ?_
 refine V.qnil ?_
 rintro w8 G9
 have z10 := V.Fr.size G9
 try replace Fk2 := Fk2.gr G9
 replace HG := HG.grow G9
 clear G9
 refine V.tN ?_
 refine V.ret ?_
 refine V.done rfl ?_
 exact ⟨(by first | rfl | decide +kernel), HG⟩

set_option maxHeartbeats 400000 in
set_option maxRecDepth 10000 in
theorem alive_spec {w : World}    :
    Meets Tryd.prog 11 [] w fun r w' => r = .bool true ∧ Gr w w' := by
 have HG := V.Fr.refl [] w
 refine V.enter (n := 25) Tryd.func11 rfl rfl (by decide) rfl ?_
 refine V.seq ?_
 refine V.region ?_
 refine V.run T_ok 1 rfl ?_
 refine V.nil ?_
 refine V.tN ?_
 refine V.seq ?_
 refine V.region ?_
 refine V.mkStruct T_ok zero23 rfl rfl rfl rfl rfl ?_
 refine V.call (snext_spec (a := 3) (b := 65535)) rfl rfl rfl ?_
 rintro _ w1 ⟨rfl, G2⟩
 have z3 := V.Fr.size G2
 replace HG := HG.grow G2
 clear G2
 refine V.run T_ok 3 rfl ?_
 refine V.alloc zero23 rfl rfl rfl ?_
 rintro k4 w6 s8 s9 G7 Fk5
 have z10 := V.Fr.size G7
 replace HG := HG.grow G7
 clear G7
 try simp only [V.cellsL, V.spliceL] at Fk5
 refine V.storeO Fk5 rfl rfl rfl rfl sz23 rfl rfl rfl rfl ?_
 rintro w11 G12 z14 Fs13
 clear Fk5
 have z15 := V.Fr.size G12
 replace HG := HG.n1 G12
 clear G12
 have Fk5 := Fs13; clear Fs13
 simp only [V.spliceL, V.cellsL] at Fk5
 refine V.run T_ok 1 rfl ?_
 refine V.nil ?_
 refine V.tN ?_
 refine V.seq ?_
 refine V.region ?_
 refine V.run T_ok 3 rfl ?_
 refine V.splitT (j := 2) (t := 10) rfl rfl (by (first | rfl | decide)) ?_
 refine V.yes rfl rfl rfl ?_
 refine V.loadO T_ok Fk5 rfl rfl rfl rfl rfl ?_
 refine V.yes rfl rfl rfl ?_
 refine V.mkStruct T_ok zero23 rfl rfl rfl rfl rfl ?_
 refine V.yes rfl rfl rfl ?_
 refine V.step rfl rfl (V.eqA_run rfl rfl rfl eqG23 (eqS23 _)) ?_
 refine V.run T_ok 2 rfl ?_
 refine V.splitT (j := 7) (t := 15) rfl rfl (by (first | rfl | decide)) ?_
 refine V.yes rfl rfl rfl ?_
 refine V.mkStruct T_ok zero23 rfl rfl rfl rfl rfl ?_
 refine V.yes rfl rfl rfl ?_
 refine V.loadO T_ok Fk5 rfl rfl rfl rfl rfl ?_
 refine V.yes rfl rfl rfl ?_
 refine V.call (less_spec (a := 3) (b := 9) (c := (((nextSt 3 65535).1).1)) (d := (((nextSt 3 65535).1).2))) rfl rfl rfl ?_
 rintro _ w16 ⟨rfl, G17⟩
 have z18 := V.Fr.size G17
 try replace Fk5 := Fk5.gr G17
 replace HG := HG.grow G17
 clear G17
 refine V.run T_ok 2 rfl ?_
 refine V.splitT (j := 12) (t := 20) rfl rfl (by (first | rfl | decide)) ?_
 refine V.yes rfl rfl rfl ?_
 refine V.mkStruct T_ok zero23 rfl rfl rfl rfl rfl ?_
 refine V.yes rfl rfl rfl ?_
 refine V.call (text_lit) rfl rfl rfl ?_
 rintro _ w19 ⟨rfl, G20⟩
 have z21 := V.Fr.size G20
 try replace Fk5 := Fk5.gr G20
 replace HG := HG.grow G20
 clear G20
 refine V.run T_ok 3 rfl ?_
 refine V.nil ?_
 refine V.tN ?_
 refine V.ret ?_
 refine V.done rfl ?_
 exact ⟨(congrArg Value.bool (by first | rfl | (decide))), HG⟩

set_option maxHeartbeats 400000 in
set_option maxRecDepth 10000 in
theorem stampPlus_walk {w : World}  {a : Int} {b : Int} {x : Int} {y : Int}  :
    Meets Tryd.prog 4 [.agg #[.int .i64 a, .int .i64 b], .int .i64 x, .int .i64 y] w fun r w' => r = .bool true ∧ Gr w w' := by
 have HG := V.Fr.refl [] w
 refine V.enter (n := 88) Tryd.func4 rfl rfl (by decide) rfl ?_
 refine V.seq ?_
 refine V.region ?_
 refine V.box rfl rfl rfl rfl ?_
 rintro k1 w3 s5 s6 G4 Fk2
 have z7 := V.Fr.size G4
 replace HG := HG.grow G4
 clear G4
 try simp only [V.cellsL, V.spliceL] at Fk2
 refine V.run T_ok 1 rfl ?_
 refine V.nil ?_
 refine V.tN ?_
 refine V.seq ?_
 refine V.seq ?_
 refine V.region ?_
 refine V.loadO T_ok Fk2 rfl rfl rfl rfl rfl ?_
 refine V.call (right_spec (a := a) (b := b)) rfl rfl rfl ?_
 rintro _ w8 ⟨rfl, G9⟩
 have z10 := V.Fr.size G9
 try replace Fk2 := Fk2.gr G9
 replace HG := HG.grow G9
 clear G9
 refine V.run T_ok 2 rfl ?_
 refine V.orG T_ok 2 3 13 rfl rfl rfl rfl rfl rfl rfl rfl ?_
 refine V.run T_ok 1 rfl ?_
 refine V.orG T_ok 2 7 17 rfl rfl rfl rfl rfl rfl rfl rfl ?_
 refine V.run T_ok 1 rfl ?_
 refine V.orG T_ok 2 11 21 rfl rfl rfl rfl rfl rfl rfl rfl ?_
 refine V.run T_ok 1 rfl ?_
 refine V.orG T_ok 2 15 25 rfl rfl rfl rfl rfl rfl rfl rfl ?_
 refine V.nil ?_
 refine V.tN ?_
 refine V.condT rfl (fun h1 => ?_) (fun h1 => ?_)
 ·
  try replace h1 := V.dec h1
  try simp only [V.mk0, V.mk1, V.mk2, V.mk3] at h1
  refine V.seq ?_
  refine V.region ?_
  refine V.call (alive_spec) rfl rfl rfl ?_
  rintro _ w11 ⟨rfl, G12⟩
  have z13 := V.Fr.size G12
  try replace Fk2 := Fk2.gr G12
  replace HG := HG.grow G12
  clear G12
  refine V.run T_ok 1 rfl ?_
  refine V.nil ?_
  refine V.tN ?_
  refine V.ret ?_
  refine V.tR ?_
  refine V.done rfl ?_
  exact ⟨(congrArg Value.bool (by first | rfl | (first | grind [plusSt] | (rw [V.wrap_in (x := 0 - x) (by omega) (by omega)]; grind [plusSt])))), HG⟩
 ·
  try replace h1 := V.dec h1
  try simp only [V.mk0, V.mk1, V.mk2, V.mk3] at h1
  refine V.skip ?_
  refine V.tN ?_
  refine V.seq ?_
  refine V.region ?_
  refine V.loadO T_ok Fk2 rfl rfl rfl rfl rfl ?_
  refine V.run T_ok 1 rfl ?_
  refine V.call (plus_spec (a := a) (b := b) (t := x)) rfl rfl rfl ?_
  rintro _ w14 ⟨rfl, G15⟩
  have z16 := V.Fr.size G15
  try replace Fk2 := Fk2.gr G15
  replace HG := HG.grow G15
  clear G15
  refine V.alloc zero23 rfl rfl rfl ?_
  rintro k17 w19 s21 s22 G20 Fk18
  have z23 := V.Fr.size G20
  try replace Fk2 := Fk2.gr G20
  replace HG := HG.grow G20
  clear G20
  try simp only [V.cellsL, V.spliceL] at Fk18
  refine V.storeO Fk18 rfl rfl rfl rfl sz23 rfl rfl rfl rfl ?_
  rintro w24 G25 z27 Fs26
  clear Fk18
  have z28 := V.Fr.size G25
  first | replace Fk2 := Fk2.mv1 G25 (by omega) | clear Fk2 | skip
  replace HG := HG.n1 G25
  clear G25
  have Fk18 := Fs26; clear Fs26
  simp only [V.spliceL, V.cellsL] at Fk18
  refine V.nil ?_
  refine V.tN ?_
  refine V.seq ?_
  refine V.region ?_
  refine V.loadO T_ok Fk2 rfl rfl rfl rfl rfl ?_
  refine V.run T_ok 2 rfl ?_
  refine V.addN rfl rfl rfl rfl rfl (by first | omega | (simp only [List.length_take, List.length_drop, List.length_append, List.length_cons, List.length_nil, List.length_replicate, List.length_set, V.length_data, V.S_size]; omega)) (by first | omega | (simp only [List.length_take, List.length_drop, List.length_append, List.length_cons, List.length_nil, List.length_replicate, List.length_set, V.length_data, V.S_size]; omega)) ?_
  refine V.call (plus_spec (a := a) (b := b) (t := (x + y))) rfl rfl rfl ?_
  rintro _ w29 ⟨rfl, G30⟩
  have z31 := V.Fr.size G30
  try replace Fk2 := Fk2.gr G30
  try replace Fk18 := Fk18.gr G30
  replace HG := HG.grow G30
  clear G30
  refine V.alloc zero23 rfl rfl rfl ?_
  rintro k32 w34 s36 s37 G35 Fk33
  have z38 := V.Fr.size G35
  try replace Fk2 := Fk2.gr G35
  try replace Fk18 := Fk18.gr G35
  replace HG := HG.grow G35
  clear G35
  try simp only [V.cellsL, V.spliceL] at Fk33
  refine V.storeO Fk33 rfl rfl rfl rfl sz23 rfl rfl rfl rfl ?_
  rintro w39 G40 z42 Fs41
  clear Fk33
  have z43 := V.Fr.size G40
  first | replace Fk2 := Fk2.mv1 G40 (by omega) | clear Fk2 | skip
  first | replace Fk18 := Fk18.mv1 G40 (by omega) | clear Fk18 | skip
  replace HG := HG.n1 G40
  clear G40
  have Fk33 := Fs41; clear Fs41
  simp only [V.spliceL, V.cellsL] at Fk33
  refine V.nil ?_
  refine V.tN ?_
  refine V.seq ?_
  refine V.region ?_
  refine V.loadO T_ok Fk18 rfl rfl rfl rfl rfl ?_
  refine V.run T_ok 1 rfl ?_
  refine V.call (plus_spec (a := (plusSt a x)) (b := 65535) (t := y)) rfl rfl rfl ?_
  rintro _ w44 ⟨rfl, G45⟩
  have z46 := V.Fr.size G45
  try replace Fk2 := Fk2.gr G45
  try replace Fk18 := Fk18.gr G45
  try replace Fk33 := Fk33.gr G45
  replace HG := HG.grow G45
  clear G45
  refine V.alloc zero23 rfl rfl rfl ?_
  rintro k47 w49 s51 s52 G50 Fk48
  have z53 := V.Fr.size G50
  try replace Fk2 := Fk2.gr G50
  try replace Fk18 := Fk18.gr G50
  try replace Fk33 := Fk33.gr G50
  replace HG := HG.grow G50
  clear G50
  try simp only [V.cellsL, V.spliceL] at Fk48
  refine V.storeO Fk48 rfl rfl rfl rfl sz23 rfl rfl rfl rfl ?_
  rintro w54 G55 z57 Fs56
  clear Fk48
  have z58 := V.Fr.size G55
  first | replace Fk2 := Fk2.mv1 G55 (by omega) | clear Fk2 | skip
  first | replace Fk18 := Fk18.mv1 G55 (by omega) | clear Fk18 | skip
  first | replace Fk33 := Fk33.mv1 G55 (by omega) | clear Fk33 | skip
  replace HG := HG.n1 G55
  clear G55
  have Fk48 := Fs56; clear Fs56
  simp only [V.spliceL, V.cellsL] at Fk48
  refine V.nil ?_
  refine V.tN ?_
  refine V.seq ?_
  refine V.drawQ mixed (by kernel_rfl) ?_
  refine V.qcall V.clo (fun w1 g => (alive_spec)) rfl rfl rfl ?_
  refine V.qrun T_ok 1 rfl ?_
  refine V.qyes rfl rfl rfl ?_
  refine V.qloadO T_ok Fk18 rfl rfl rfl rfl rfl ?_
  refine V.qyes rfl rfl rfl ?_
  refine V.qcall V.clo (fun w1 g => (right_spec (a := (plusSt a x)) (b := 65535))) rfl rfl rfl ?_
  refine V.qrun T_ok 2 rfl ?_
  refine V.qsplit (j := 5) (t := 46) rfl rfl (fun g6_5 => ?_) (fun g6_5 => ?_)
  ·
   try replace g6_5 := V.dec g6_5
   try simp only [V.mk0, V.mk1, V.mk2, V.mk3] at g6_5
   refine V.qrun T_ok 1 rfl ?_
   refine V.qyes rfl rfl rfl ?_
   refine V.qloadO T_ok Fk18 rfl rfl rfl rfl rfl ?_
   refine V.qrun T_ok 3 rfl ?_
   refine V.qyes rfl rfl rfl ?_
   refine V.qloadO T_ok Fk18 rfl rfl rfl rfl rfl ?_
   refine V.qyes rfl rfl rfl ?_
   refine V.qloadO T_ok Fk2 rfl rfl rfl rfl rfl ?_
   refine V.qyes rfl rfl rfl ?_
   refine V.qcall V.clo (fun w1 g => (less_spec (a := (plusSt a x)) (b := 65535) (c := a) (d := b))) rfl rfl rfl ?_
   refine V.qrun T_ok 3 rfl ?_
   refine V.qsplit (j := 16) (t := 57) rfl rfl (fun g6_16 => ?_) (fun g6_16 => ?_)
   ·
    try replace g6_16 := V.dec g6_16
    try simp only [V.mk0, V.mk1, V.mk2, V.mk3] at g6_16
    refine V.qyes rfl rfl rfl ?_
    refine V.qloadO T_ok Fk33 rfl rfl rfl rfl rfl ?_
    refine V.qyes rfl rfl rfl ?_
    refine V.qloadO T_ok Fk18 rfl rfl rfl rfl rfl ?_
    refine V.qyes rfl rfl rfl ?_
    refine V.qcall V.clo (fun w1 g => (less_spec (a := (plusSt a (x + y))) (b := 65535) (c := (plusSt a x)) (d := 65535))) rfl rfl rfl ?_
    refine V.qrun T_ok 3 rfl ?_
    refine V.qsplit (j := 22) (t := 63) rfl rfl (fun g6_22 => ?_) (fun g6_22 => ?_)
    ·
     try replace g6_22 := V.dec g6_22
     try simp only [V.mk0, V.mk1, V.mk2, V.mk3] at g6_22
     refine V.qrun T_ok 1 rfl ?_
     refine V.qyes rfl rfl rfl ?_
     refine V.qloadO T_ok Fk2 rfl rfl rfl rfl rfl ?_
     refine V.qrun T_ok 1 rfl ?_
     refine V.qyes rfl rfl rfl ?_
     refine V.qaddN rfl rfl rfl rfl rfl (by first | omega | (simp only [List.length_take, List.length_drop, List.length_append, List.length_cons, List.length_nil, List.length_replicate, List.length_set, V.length_data, V.S_size]; omega)) (by first | omega | (simp only [List.length_take, List.length_drop, List.length_append, List.length_cons, List.length_nil, List.length_replicate, List.length_set, V.length_data, V.S_size]; omega)) ?_
     refine V.qrun T_ok 2 rfl ?_
     refine V.qsplit (j := 28) (t := 69) rfl rfl (fun g6_28 => ?_) (fun g6_28 => ?_)
     ·
      try replace g6_28 := V.dec g6_28
      try simp only [V.mk0, V.mk1, V.mk2, V.mk3] at g6_28
      refine V.qrun T_ok 6 rfl ?_
      refine V.qyes rfl rfl rfl ?_
      refine V.qloadO T_ok Fk2 rfl rfl rfl rfl rfl ?_
      refine V.qrun T_ok 2 rfl ?_
      refine V.qyes rfl rfl rfl ?_
      refine V.qcall V.clo (fun w1 g => (plus_spec (a := a) (b := b) (t := (Go.IntKind.wrap .i64 (0 - x))))) rfl rfl rfl ?_
      refine V.qrun T_ok 2 rfl ?_
      refine V.qyes rfl rfl rfl ?_
      refine V.qloadO T_ok Fk2 rfl rfl rfl rfl rfl ?_
      refine V.qrun T_ok 1 rfl ?_
      refine V.qyes rfl rfl rfl ?_
      refine V.qsubN rfl rfl rfl rfl rfl (by first | omega | (simp only [List.length_take, List.length_drop, List.length_append, List.length_cons, List.length_nil, List.length_replicate, List.length_set, V.length_data, V.S_size]; omega)) (by first | omega | (simp only [List.length_take, List.length_drop, List.length_append, List.length_cons, List.length_nil, List.length_replicate, List.length_set, V.length_data, V.S_size]; omega)) ?_
      refine V.qrun T_ok 4 rfl ?_
      refine V.qnil ?_
      rintro w59 G60
      have z61 := V.Fr.size G60
      try replace Fk2 := Fk2.gr G60
      try replace Fk18 := Fk18.gr G60
      try replace Fk33 := Fk33.gr G60
      try replace Fk48 := Fk48.gr G60
      replace HG := HG.grow G60
      clear G60
      refine V.tN ?_
      refine V.ret ?_
      refine V.done rfl ?_
      exact ⟨(congrArg Value.bool (by first | rfl | (first | grind [plusSt] | (rw [V.wrap_in (x := 0 - x) (by omega) (by omega)]; grind [plusSt])))), HG⟩
     ·
      try replace g6_28 := V.dec g6_28
      try simp only [V.mk0, V.mk1, V.mk2, V.mk3] at g6_28
      refine V.qyes rfl rfl rfl ?_
      refine V.qloadO T_ok Fk33 rfl rfl rfl rfl rfl ?_
      refine V.qyes rfl rfl rfl ?_
      refine V.qloadO T_ok Fk48 rfl rfl rfl rfl rfl ?_
      refine V.qyes rfl rfl rfl ?_
      refine V.qstep rfl rfl (fun _ _ => V.eqA_run rfl rfl rfl eqG23 (eqS23 _)) ?_
      refine V.qrun T_ok 3 rfl ?_
      refine V.qsplit (j := 34) (t := 75) rfl rfl (fun g6_34 => ?_) (fun g6_34 => ?_)
      ·
       try replace g6_34 := V.dec g6_34
       try simp only [V.mk0, V.mk1, V.mk2, V.mk3] at g6_34
       refine V.qyes rfl rfl rfl ?_
       refine V.qloadO T_ok Fk2 rfl rfl rfl rfl rfl ?_
       refine V.qrun T_ok 2 rfl ?_
       refine V.qyes rfl rfl rfl ?_
       refine V.qcall V.clo (fun w1 g => (plus_spec (a := a) (b := b) (t := (Go.IntKind.wrap .i64 (0 - x))))) rfl rfl rfl ?_
       refine V.qrun T_ok 2 rfl ?_
       refine V.qyes rfl rfl rfl ?_
       refine V.qloadO T_ok Fk2 rfl rfl rfl rfl rfl ?_
       refine V.qrun T_ok 1 rfl ?_
       refine V.qyes rfl rfl rfl ?_
       refine V.qsubN rfl rfl rfl rfl rfl (by first | omega | (simp only [List.length_take, List.length_drop, List.length_append, List.length_cons, List.length_nil, List.length_replicate, List.length_set, V.length_data, V.S_size]; omega)) (by first | omega | (simp only [List.length_take, List.length_drop, List.length_append, List.length_cons, List.length_nil, List.length_replicate, List.length_set, V.length_data, V.S_size]; omega)) ?_
       refine V.qrun T_ok 4 rfl ?_
       refine V.qnil ?_
       rintro w62 G63
       have z64 := V.Fr.size G63
       try replace Fk2 := Fk2.gr G63
       try replace Fk18 := Fk18.gr G63
       try replace Fk33 := Fk33.gr G63
       try replace Fk48 := Fk48.gr G63
       replace HG := HG.grow G63
       clear G63
       refine V.tN ?_
       refine V.ret ?_
       refine V.done rfl ?_
       exact ⟨(congrArg Value.bool (by first | rfl | (first | grind [plusSt] | (rw [V.wrap_in (x := 0 - x) (by omega) (by omega)]; grind [plusSt])))), HG⟩
      ·
       try replace g6_34 := V.dec g6_34
       try simp only [V.mk0, V.mk1, V.mk2, V.mk3] at g6_34
       refine V.qrun T_ok 13 rfl ?_
       refine V.qnil ?_
       rintro w65 G66
       have z67 := V.Fr.size G66
       try replace Fk2 := Fk2.gr G66
       try replace Fk18 := Fk18.gr G66
       try replace Fk33 := Fk33.gr G66
       try replace Fk48 := Fk48.gr G66
       replace HG := HG.grow G66
       clear G66
       refine V.tN ?_
       refine V.ret ?_
       refine V.done rfl ?_
       exact ⟨(congrArg Value.bool (by first | rfl | (first | grind [plusSt] | (rw [V.wrap_in (x := 0 - x) (by omega) (by omega)]; grind [plusSt])))), HG⟩
    ·
     try replace g6_22 := V.dec g6_22
     try simp only [V.mk0, V.mk1, V.mk2, V.mk3] at g6_22
     refine V.qrun T_ok 25 rfl ?_
     refine V.qnil ?_
     rintro w68 G69
     have z70 := V.Fr.size G69
     try replace Fk2 := Fk2.gr G69
     try replace Fk18 := Fk18.gr G69
     try replace Fk33 := Fk33.gr G69
     try replace Fk48 := Fk48.gr G69
     replace HG := HG.grow G69
     clear G69
     refine V.tN ?_
     refine V.ret ?_
     refine V.done rfl ?_
     exact ⟨(congrArg Value.bool (by first | rfl | (first | grind [plusSt] | (rw [V.wrap_in (x := 0 - x) (by omega) (by omega)]; grind [plusSt])))), HG⟩
   ·
    try replace g6_16 := V.dec g6_16
    try simp only [V.mk0, V.mk1, V.mk2, V.mk3] at g6_16
    refine V.qrun T_ok 31 rfl ?_
    refine V.qnil ?_
    rintro w71 G72
    have z73 := V.Fr.size G72
    try replace Fk2 := Fk2.gr G72
    try replace Fk18 := Fk18.gr G72
    try replace Fk33 := Fk33.gr G72
    try replace Fk48 := Fk48.gr G72
    replace HG := HG.grow G72
    clear G72
    refine V.tN ?_
    refine V.ret ?_
    refine V.done rfl ?_
    exact ⟨(congrArg Value.bool (by first | rfl | (first | grind [plusSt] | (rw [V.wrap_in (x := 0 - x) (by omega) (by omega)]; grind [plusSt])))), HG⟩
  ·
   try replace g6_5 := V.dec g6_5
   try simp only [V.mk0, V.mk1, V.mk2, V.mk3] at g6_5
   refine V.qrun T_ok 42 rfl ?_
   refine V.qnil ?_
   rintro w74 G75
   have z76 := V.Fr.size G75
   try replace Fk2 := Fk2.gr G75
   try replace Fk18 := Fk18.gr G75
   try replace Fk33 := Fk33.gr G75
   try replace Fk48 := Fk48.gr G75
   replace HG := HG.grow G75
   clear G75
   refine V.tN ?_
   refine V.ret ?_
   refine V.done rfl ?_
   exact ⟨(congrArg Value.bool (by first | rfl | (first | grind [plusSt] | (rw [V.wrap_in (x := 0 - x) (by omega) (by omega)]; grind [plusSt])))), HG⟩

end Go.Proofs.YtbpfojlnndkaoaaDoor
