/- Proved here: walks: what functions of this seat's program return and what they leave of memory, each as a contract. Conditions: stated at each theorem. -/
import Derived.Test.YtaokenlcjkomhaaMrec2
namespace Go.Proofs.Ytaokenlcjkomhaa
set_option linter.unusedVariables false
set_option linter.unusedSimpArgs false
open Go
open V (Bytes Meets Env Sl Own Gr Fr Cells S)
set_option maxHeartbeats 4000000 in
set_option maxRecDepth 10000 in
theorem alive_spec {w : World}    :
    Meets Try.prog 13 [] w fun r w' => r = .bool true ∧ Gr w w' := by
 have HG := V.Fr.refl [] w
 refine V.enter (n := 84) Try.func13 rfl rfl (by decide) rfl ?_
 refine V.seq ?_
 refine V.region ?_
 refine V.run T_ok 1 rfl ?_
 refine V.nil ?_
 refine V.tN ?_
 refine V.seq ?_
 refine V.region ?_
 refine V.mkStruct T_ok zero27 rfl rfl rfl rfl rfl ?_
 refine V.mkStruct T_ok zero24 rfl rfl rfl rfl rfl ?_
 refine V.call (beat_spec (ep := 1) (nw := 5) (nl := 0) (d := (⟨9, 0, 0, 0, 0, 0, 0, []⟩ : RecV)) (Sl.nil _ _ V.None' _ _ (Nat.zero_le _)) (fun _ h => h.elim) (by first | assumption | omega | decide)) rfl rfl rfl ?_
 rintro _ w4 ⟨a1, c2, rfl, F3, G5⟩
 have z6 := V.Fr.size G5
 replace HG := HG.grow G5
 clear G5
 refine V.run T_ok 3 rfl ?_
 refine V.alloc zero27 rfl rfl rfl ?_
 rintro k7 w9 s11 s12 G10 Fk8
 have z13 := V.Fr.size G10
 try replace F3 := F3.gr G10
 replace HG := HG.grow G10
 clear G10
 try simp only [V.cellsL, V.spliceL] at Fk8
 refine V.storeO Fk8 rfl rfl rfl rfl sz27 rfl rfl rfl rfl ?_
 rintro w14 G15 z17 Fs16
 clear Fk8
 have z18 := V.Fr.size G15
 first | replace F3 := F3.ma G15 | clear F3 | skip
 replace HG := HG.n1 G15
 clear G15
 have Fk8 := Fs16; clear Fs16
 simp only [V.spliceL, V.cellsL] at Fk8
 refine V.run T_ok 1 rfl ?_
 refine V.nil ?_
 refine V.tN ?_
 refine V.seq ?_
 refine V.region ?_
 refine V.loadO T_ok Fk8 rfl rfl rfl rfl rfl ?_
 refine V.mkStruct T_ok zero24 rfl rfl rfl rfl rfl ?_
 refine V.mkStruct T_ok zero24 rfl rfl rfl rfl rfl ?_
 refine V.mkStruct T_ok zero49 rfl rfl rfl rfl rfl ?_
 refine V.mkSlice T_ok zero49 rfl rfl sz49 rfl rfl rfl rfl rfl rfl ?_
 rintro k19 w22 s24 s25 G23 Fk20
 have z26 := V.Fr.size G23
 try replace F3 := F3.gr G23
 try replace Fk8 := Fk8.gr G23
 replace HG := HG.grow G23
 clear G23
 have F21 := V.rowOfC (xs := ([((V.S [107]), 1)] : List (ByteArray × Int))) Fk20 (C := V.Cod.write) (V.reps_cons (x := ((V.S [107]), 1)) ⟨_, _, rfl, rfl, rfl⟩ rfl rfl) rfl
 clear Fk20
 refine V.call (stage_spec (ep := 1) (aw := 7) (al := 0) (nw := 6) (nl := 0) (d := (rBeat (⟨9, 0, 0, 0, 0, 0, 0, []⟩ : RecV) 1 5 0).1) F3 (fun k hk => by have := hk.2; omega) F21.sl (fun k hk => by have := hk.2; omega) (by first | assumption | omega | decide) (by first | assumption | omega | decide) (by first | assumption | (unfold keysOk; decide))) rfl rfl rfl ?_
 rintro _ w30 ⟨a27, c28, rfl, F29, G31⟩
 have z32 := V.Fr.size G31
 try replace F3 := F3.gr G31
 try replace Fk8 := Fk8.gr G31
 try replace F21 := F21.gr G31
 replace HG := HG.grow G31
 clear G31
 refine V.run T_ok 3 rfl ?_
 refine V.alloc zero27 rfl rfl rfl ?_
 rintro k33 w35 s37 s38 G36 Fk34
 have z39 := V.Fr.size G36
 try replace F3 := F3.gr G36
 try replace Fk8 := Fk8.gr G36
 try replace F21 := F21.gr G36
 try replace F29 := F29.gr G36
 replace HG := HG.grow G36
 clear G36
 try simp only [V.cellsL, V.spliceL] at Fk34
 refine V.storeO Fk34 rfl rfl rfl rfl sz27 rfl rfl rfl rfl ?_
 rintro w40 G41 z43 Fs42
 clear Fk34
 have z44 := V.Fr.size G41
 first | replace F3 := F3.ma G41 | clear F3 | skip
 first | replace Fk8 := Fk8.mv1 G41 (by omega) | clear Fk8 | skip
 first | replace F21 := F21.ma G41 | clear F21 | skip
 first | replace F29 := F29.ma G41 | clear F29 | skip
 replace HG := HG.n1 G41
 clear G41
 have Fk34 := Fs42; clear Fs42
 simp only [V.spliceL, V.cellsL] at Fk34
 refine V.run T_ok 1 rfl ?_
 refine V.nil ?_
 refine V.tN ?_
 refine V.seq ?_
 refine V.region ?_
 refine V.loadO T_ok Fk34 rfl rfl rfl rfl rfl ?_
 refine V.mkStruct T_ok zero24 rfl rfl rfl rfl rfl ?_
 refine V.call (finish_spec (ep := 1) (aw := 7) (al := 0) (c := false) (s := false) (d := (rStage (rBeat (⟨9, 0, 0, 0, 0, 0, 0, []⟩ : RecV) 1 5 0).1 1 7 0 6 0 ([((V.S [107]), 1)] : List (ByteArray × Int))).1) F29 (fun k hk => by have := hk.2; omega) (by first | assumption | omega | decide)) rfl rfl rfl ?_
 rintro _ w48 ⟨a45, c46, rfl, F47, G49⟩
 have z50 := V.Fr.size G49
 try replace F3 := F3.gr G49
 try replace Fk8 := Fk8.gr G49
 try replace F21 := F21.gr G49
 try replace F29 := F29.gr G49
 try replace Fk34 := Fk34.gr G49
 replace HG := HG.grow G49
 clear G49
 refine V.run T_ok 3 rfl ?_
 refine V.alloc zero27 rfl rfl rfl ?_
 rintro k51 w53 s55 s56 G54 Fk52
 have z57 := V.Fr.size G54
 try replace F3 := F3.gr G54
 try replace Fk8 := Fk8.gr G54
 try replace F21 := F21.gr G54
 try replace F29 := F29.gr G54
 try replace Fk34 := Fk34.gr G54
 try replace F47 := F47.gr G54
 replace HG := HG.grow G54
 clear G54
 try simp only [V.cellsL, V.spliceL] at Fk52
 refine V.storeO Fk52 rfl rfl rfl rfl sz27 rfl rfl rfl rfl ?_
 rintro w58 G59 z61 Fs60
 clear Fk52
 have z62 := V.Fr.size G59
 first | replace F3 := F3.ma G59 | clear F3 | skip
 first | replace Fk8 := Fk8.mv1 G59 (by omega) | clear Fk8 | skip
 first | replace F21 := F21.ma G59 | clear F21 | skip
 first | replace F29 := F29.ma G59 | clear F29 | skip
 first | replace Fk34 := Fk34.mv1 G59 (by omega) | clear Fk34 | skip
 first | replace F47 := F47.ma G59 | clear F47 | skip
 replace HG := HG.n1 G59
 clear G59
 have Fk52 := Fs60; clear Fs60
 simp only [V.spliceL, V.cellsL] at Fk52
 refine V.run T_ok 1 rfl ?_
 refine V.nil ?_
 refine V.tN ?_
 refine V.seq ?_
 refine V.region ?_
 refine V.loadO T_ok Fk34 rfl rfl rfl rfl rfl ?_
 refine V.mkStruct T_ok zero24 rfl rfl rfl rfl rfl ?_
 refine V.call (finish_spec (ep := 1) (aw := 7) (al := 0) (c := true) (s := true) (d := (rStage (rBeat (⟨9, 0, 0, 0, 0, 0, 0, []⟩ : RecV) 1 5 0).1 1 7 0 6 0 ([((V.S [107]), 1)] : List (ByteArray × Int))).1) F29 (fun k hk => by have := hk.2; omega) (by first | assumption | omega | decide)) rfl rfl rfl ?_
 rintro _ w66 ⟨a63, c64, rfl, F65, G67⟩
 have z68 := V.Fr.size G67
 try replace F3 := F3.gr G67
 try replace Fk8 := Fk8.gr G67
 try replace F21 := F21.gr G67
 try replace F29 := F29.gr G67
 try replace Fk34 := Fk34.gr G67
 try replace F47 := F47.gr G67
 try replace Fk52 := Fk52.gr G67
 replace HG := HG.grow G67
 clear G67
 refine V.run T_ok 3 rfl ?_
 refine V.alloc zero27 rfl rfl rfl ?_
 rintro k69 w71 s73 s74 G72 Fk70
 have z75 := V.Fr.size G72
 try replace F3 := F3.gr G72
 try replace Fk8 := Fk8.gr G72
 try replace F21 := F21.gr G72
 try replace F29 := F29.gr G72
 try replace Fk34 := Fk34.gr G72
 try replace F47 := F47.gr G72
 try replace Fk52 := Fk52.gr G72
 try replace F65 := F65.gr G72
 replace HG := HG.grow G72
 clear G72
 try simp only [V.cellsL, V.spliceL] at Fk70
 refine V.storeO Fk70 rfl rfl rfl rfl sz27 rfl rfl rfl rfl ?_
 rintro w76 G77 z79 Fs78
 clear Fk70
 have z80 := V.Fr.size G77
 first | replace F3 := F3.ma G77 | clear F3 | skip
 first | replace Fk8 := Fk8.mv1 G77 (by omega) | clear Fk8 | skip
 first | replace F21 := F21.ma G77 | clear F21 | skip
 first | replace F29 := F29.ma G77 | clear F29 | skip
 first | replace Fk34 := Fk34.mv1 G77 (by omega) | clear Fk34 | skip
 first | replace F47 := F47.ma G77 | clear F47 | skip
 first | replace Fk52 := Fk52.mv1 G77 (by omega) | clear Fk52 | skip
 first | replace F65 := F65.ma G77 | clear F65 | skip
 replace HG := HG.n1 G77
 clear G77
 have Fk70 := Fs78; clear Fs78
 simp only [V.spliceL, V.cellsL] at Fk70
 refine V.run T_ok 1 rfl ?_
 refine V.nil ?_
 refine V.tN ?_
 refine V.seq ?_
 refine V.region ?_
 refine V.loadO T_ok Fk8 rfl rfl rfl rfl rfl ?_
 refine V.mkStruct T_ok zero29 rfl rfl rfl rfl rfl ?_
 refine V.mkStruct T_ok zero24 rfl rfl rfl rfl rfl ?_
 refine V.call (push_spec (mi := 9) (me := 1) (an := ByteArray.empty) (sw := 0) (sl := 0) (nw := 20) (nl := 0) (pr := 10) (d := (rBeat (⟨9, 0, 0, 0, 0, 0, 0, []⟩ : RecV) 1 5 0).1) F3 (fun k hk => by have := hk.2; omega) (by first | assumption | omega | decide)) rfl rfl rfl ?_
 rintro _ w84 ⟨a81, c82, rfl, F83, G85⟩
 have z86 := V.Fr.size G85
 try replace F3 := F3.gr G85
 try replace Fk8 := Fk8.gr G85
 try replace F21 := F21.gr G85
 try replace F29 := F29.gr G85
 try replace Fk34 := Fk34.gr G85
 try replace F47 := F47.gr G85
 try replace Fk52 := Fk52.gr G85
 try replace F65 := F65.gr G85
 try replace Fk70 := Fk70.gr G85
 replace HG := HG.grow G85
 clear G85
 refine V.run T_ok 3 rfl ?_
 refine V.alloc zero27 rfl rfl rfl ?_
 rintro k87 w89 s91 s92 G90 Fk88
 have z93 := V.Fr.size G90
 try replace F3 := F3.gr G90
 try replace Fk8 := Fk8.gr G90
 try replace F21 := F21.gr G90
 try replace F29 := F29.gr G90
 try replace Fk34 := Fk34.gr G90
 try replace F47 := F47.gr G90
 try replace Fk52 := Fk52.gr G90
 try replace F65 := F65.gr G90
 try replace Fk70 := Fk70.gr G90
 try replace F83 := F83.gr G90
 replace HG := HG.grow G90
 clear G90
 try simp only [V.cellsL, V.spliceL] at Fk88
 refine V.storeO Fk88 rfl rfl rfl rfl sz27 rfl rfl rfl rfl ?_
 rintro w94 G95 z97 Fs96
 clear Fk88
 have z98 := V.Fr.size G95
 first | replace F3 := F3.ma G95 | clear F3 | skip
 first | replace Fk8 := Fk8.mv1 G95 (by omega) | clear Fk8 | skip
 first | replace F21 := F21.ma G95 | clear F21 | skip
 first | replace F29 := F29.ma G95 | clear F29 | skip
 first | replace Fk34 := Fk34.mv1 G95 (by omega) | clear Fk34 | skip
 first | replace F47 := F47.ma G95 | clear F47 | skip
 first | replace Fk52 := Fk52.mv1 G95 (by omega) | clear Fk52 | skip
 first | replace F65 := F65.ma G95 | clear F65 | skip
 first | replace Fk70 := Fk70.mv1 G95 (by omega) | clear Fk70 | skip
 first | replace F83 := F83.ma G95 | clear F83 | skip
 replace HG := HG.n1 G95
 clear G95
 have Fk88 := Fs96; clear Fs96
 simp only [V.spliceL, V.cellsL] at Fk88
 refine V.run T_ok 1 rfl ?_
 refine V.nil ?_
 refine V.tN ?_
 refine V.seq ?_
 refine V.region ?_
 refine V.run T_ok 3 rfl ?_
 refine V.splitT (j := 2) (t := 47) rfl rfl (by (first | rfl | decide +kernel)) ?_
 refine V.run T_ok 4 rfl ?_
 refine V.splitT (j := 6) (t := 51) rfl rfl (by (first | rfl | decide +kernel)) ?_
 refine V.run T_ok 4 rfl ?_
 refine V.splitT (j := 10) (t := 55) rfl rfl (by (first | rfl | decide +kernel)) ?_
 refine V.run T_ok 4 rfl ?_
 refine V.splitT (j := 14) (t := 59) rfl rfl (by (first | rfl | decide +kernel)) ?_
 refine V.run T_ok 4 rfl ?_
 refine V.splitT (j := 18) (t := 63) rfl rfl (by (first | rfl | decide +kernel)) ?_
 refine V.run T_ok 1 rfl ?_
 refine V.yes rfl rfl rfl ?_
 refine V.loadO T_ok Fk8 rfl rfl rfl rfl rfl ?_
 refine V.run T_ok 3 rfl ?_
 refine V.splitT (j := 23) (t := 68) rfl rfl (by (first | rfl | decide +kernel)) ?_
 refine V.run T_ok 1 rfl ?_
 refine V.yes rfl rfl rfl ?_
 refine V.loadO T_ok Fk34 rfl rfl rfl rfl rfl ?_
 refine V.run T_ok 3 rfl ?_
 refine V.splitT (j := 28) (t := 73) rfl rfl (by (first | rfl | decide +kernel)) ?_
 refine V.run T_ok 1 rfl ?_
 refine V.yes rfl rfl rfl ?_
 refine V.loadO T_ok Fk70 rfl rfl rfl rfl rfl ?_
 refine V.run T_ok 3 rfl ?_
 refine V.splitT (j := 33) (t := 78) rfl rfl (by (first | rfl | decide +kernel)) ?_
 refine V.run T_ok 2 rfl ?_
 refine V.yes rfl rfl rfl ?_
 refine V.loadO T_ok Fk70 rfl rfl rfl rfl rfl ?_
 refine V.run T_ok 3 rfl ?_
 refine V.nil ?_
 refine V.tN ?_
 refine V.ret ?_
 refine V.done rfl ?_
 exact ⟨(congrArg Value.bool (by first | rfl | (decide +kernel))), HG⟩


def fitsA (ws : List (ByteArray × Int)) : Bool := decide (ws.length ≤ 20 ∧ ∀ x ∈ ws, x.1.size ≤ 300)
theorem fitsA_keys {ws : List (ByteArray × Int)} (h : fitsA ws = true) : keysOk ws ∧ ws.length ≤ 20 := by
  simp only [fitsA, decide_eq_true_eq] at h
  exact ⟨fun x hx => by have := h.2 x hx; omega, h.1⟩
theorem fitsA_many {ws : List (ByteArray × Int)} (h : 20 < ws.length) : fitsA ws = false := by simp only [fitsA, decide_eq_false_iff_not]; omega
theorem fitsA_long {ws : List (ByteArray × Int)} {i : Nat} {x : ByteArray × Int} (hi : i < ws.length) (hx : ws[i] = x) (h : 300 < x.1.size) : fitsA ws = false := by
  simp only [fitsA, decide_eq_false_iff_not]
  intro h2
  have := h2.2 ws[i] (List.getElem_mem hi)
  rw [hx] at this; omega
theorem fitsA_all {ws : List (ByteArray × Int)} (h0 : ws.length ≤ 20) (h : ∀ j (hj : j < ws.length), ws[j].1.size ≤ 300) : fitsA ws = true := by
  simp only [fitsA, decide_eq_true_eq]
  refine ⟨h0, fun x hx => ?_⟩
  obtain ⟨j, hj, rfl⟩ := List.mem_iff_getElem.1 hx
  exact h j hj
def fitsR (d : RecV) : Bool := decide (d.ws.length ≤ 20) && recB d
theorem fitsR_len {d : RecV} (h : fitsR d = true) : d.ws.length ≤ 20 ∧ recB d = true := by simpa [fitsR] using h
def play (d : RecV) (ki ep aw al nw nl : Int) (ws : List (ByteArray × Int)) (co sg : Bool) (mi me sw sl pr : Int) : RecV × Int :=
  if ki = 1 then rBeat d ep nw nl else if ki = 2 then rStage d ep aw al nw nl ws else if ki = 3 then rFinish d ep aw al co sg else rPush d mi me sw sl nw nl pr

set_option maxHeartbeats 4000000 in
set_option maxRecDepth 10000 in
theorem fitsR_spec {w : World} {d : RecV} {D_o : Nat → Prop} {c_o : Nat} {a_o : Option Addr} (F_o : Sl V.Cod.write w D_o a_o c_o d.ws) (hD_o : ∀ k, D_o k → k < w.heap.size)  (hw : keysOk d.ws) :
    Meets Try.prog 12 [.agg #[.int .i64 d.id, .int .i64 d.ep, .int .i64 d.st, .int .i64 d.aw, .int .i64 d.al, .int .i64 d.bw, .int .i64 d.bl, .slice a_o d.ws.length c_o]] w fun r w' => r = .bool (fitsR d) ∧ Gr w w' := by
 have HG := V.Fr.refl [] w
 refine V.enter (n := 9) Try.func12 rfl rfl (by decide) rfl ?_
 refine V.seq ?_
 refine V.region ?_
 refine V.box rfl rfl rfl rfl ?_
 rintro k1 w3 s5 s6 G4 Fk2
 have z7 := V.Fr.size G4
 try replace F_o := F_o.gr G4
 replace HG := HG.grow G4
 clear G4
 try simp only [V.cellsL, V.spliceL] at Fk2
 refine V.run T_ok 1 rfl ?_
 refine V.nil ?_
 refine V.tN ?_
 refine V.seq ?_
 refine V.seq ?_
 refine V.region ?_
 refine V.run T_ok 1 rfl ?_
 refine V.loadO T_ok Fk2 rfl rfl rfl rfl rfl ?_
 refine V.run T_ok 2 rfl ?_
 refine V.nil ?_
 refine V.tN ?_
 refine V.condT rfl (fun h1 => ?_) (fun h1 => ?_)
 ·
  try replace h1 := V.dec h1
  try simp only [V.mk0, V.mk1, V.mk2, V.mk3] at h1
  refine V.seq ?_
  refine V.region ?_
  refine V.run T_ok 1 rfl ?_
  refine V.nil ?_
  refine V.tN ?_
  refine V.ret ?_
  refine V.tR ?_
  refine V.done rfl ?_
  exact ⟨congrArg Value.bool (by simp only [fitsR]; grind), HG⟩
 ·
  try replace h1 := V.dec h1
  try simp only [V.mk0, V.mk1, V.mk2, V.mk3] at h1
  refine V.skip ?_
  refine V.tN ?_
  refine V.seq ?_
  refine V.region ?_
  refine V.loadO T_ok Fk2 rfl rfl rfl rfl rfl ?_
  refine V.call (rrecR_spec (d := d) F_o (fun k hk => by have := hD_o k hk; omega) (by first | assumption | (unfold keysOk; decide))) rfl rfl rfl ?_
  rintro _ w8 ⟨rfl, G9⟩
  have z10 := V.Fr.size G9
  try replace F_o := F_o.gr G9
  try replace Fk2 := Fk2.gr G9
  replace HG := HG.grow G9
  clear G9
  refine V.run T_ok 1 rfl ?_
  refine V.nil ?_
  refine V.tN ?_
  refine V.ret ?_
  refine V.done rfl ?_
  exact ⟨congrArg Value.bool (by simp only [fitsR]; grind), HG⟩

set_option maxHeartbeats 4000000 in
set_option maxRecDepth 10000 in
theorem fitsA_spec {w : World}  {ki : Int} {ep : Int} {aw : Int} {al : Int} {nw : Int} {nl : Int} {D_ws : Nat → Prop} {c_ws : Nat} {a_ws : Option Addr} {ws : List (ByteArray × Int)} (F_ws : Sl V.Cod.write w D_ws a_ws c_ws ws) (hD_ws : ∀ k, D_ws k → k < w.heap.size) {co : Bool} {sg : Bool} {mi : Int} {me : Int} {an : ByteArray} {sw : Int} {sl : Int} {pr : Int}  :
    Meets Try.prog 11 [.agg #[.int .i64 ki, .int .i64 ep, .int .i64 aw, .int .i64 al, .int .i64 nw, .int .i64 nl, .slice a_ws ws.length c_ws, .bool co, .bool sg, .int .i64 mi, .int .i64 me, .string an, .int .i64 sw, .int .i64 sl, .int .i64 pr]] w fun r w' => r = .bool (fitsA ws) ∧ Gr w w' := by
 have HG := V.Fr.refl [] w
 refine V.enter (n := 23) Try.func11 rfl rfl (by decide) rfl ?_
 refine V.seq ?_
 refine V.region ?_
 refine V.box rfl rfl rfl rfl ?_
 rintro k1 w3 s5 s6 G4 Fk2
 have z7 := V.Fr.size G4
 try replace F_ws := F_ws.gr G4
 replace HG := HG.grow G4
 clear G4
 try simp only [V.cellsL, V.spliceL] at Fk2
 refine V.run T_ok 1 rfl ?_
 refine V.nil ?_
 refine V.tN ?_
 refine V.seq ?_
 refine V.seq ?_
 refine V.region ?_
 refine V.run T_ok 1 rfl ?_
 refine V.nil ?_
 refine V.tN ?_
 refine V.block ?_
 have hl63 := F_ws.len63
 refine V.loopM (fun m e v9 => Fr [] w v9 ∧ w3.heap.size ≤ v9.heap.size ∧ Sl V.Cod.write v9 D_ws a_ws c_ws ws ∧ Cells v9 k1 [.int .i64 ki, .int .i64 ep, .int .i64 aw, .int .i64 al, .int .i64 nw, .int .i64 nl, .slice a_ws ws.length c_ws, .bool co, .bool sg, .int .i64 mi, .int .i64 me, .string an, .int .i64 sw, .int .i64 sl, .int .i64 pr] 31 ∧ ∃ (i : Nat) , m = ws.length - i ∧ i ≤ ws.length ∧ i ≤ 20 ∧ (∀ j (hj : j < ws.length), j < i → ws[j].1.size ≤ 300) ∧ e 1 = .pointer (some ⟨k1, 0, none⟩) ∧ e 3 = .int .i64 (i : Int)) ?_ ?_
 ·
  exact ⟨_, HG, (by omega), F_ws, Fk2, (0), rfl, (by omega), (by omega), (fun j hj h => absurd h (Nat.not_lt_zero _)), rfl, rfl⟩
 clear HG F_ws Fk2
 rintro _ e v9 ⟨HG, z10, F_ws, Fk2, i, rfl, hi, hi2, hno, he0_1, he0_3⟩
 refine V.knownC (t := 1) he0_1 ?_
 refine V.knownC (t := 3) he0_3 ?_
 refine V.seq ?_
 refine V.seq ?_
 refine V.region ?_
 refine V.run T_ok 2 rfl ?_
 refine V.loadO T_ok Fk2 rfl rfl rfl rfl rfl ?_
 refine V.run T_ok 2 rfl ?_
 refine V.nil ?_
 refine V.tN ?_
 refine V.condT rfl (fun h2 => ?_) (fun h2 => ?_)
 ·
  try replace h2 := V.dec h2
  try simp only [V.mk0, V.mk1, V.mk2, V.mk3] at h2
  refine V.skip ?_
  refine V.tN ?_
  refine V.seq ?_
  refine V.block ?_
  refine V.seq ?_
  refine V.region ?_
  refine V.run T_ok 3 rfl ?_
  refine V.split (j := 2) (t := 13) rfl rfl (fun g4_2 => ?_) (fun g4_2 => ?_)
  ·
   try replace g4_2 := V.dec g4_2
   try simp only [V.mk0, V.mk1, V.mk2, V.mk3] at g4_2
   refine V.run T_ok 9 rfl ?_
   refine V.nil ?_
   refine V.tN ?_
   refine V.condY rfl rfl ?_
   refine V.seq ?_
   refine V.region ?_
   refine V.run T_ok 1 rfl ?_
   refine V.nil ?_
   refine V.tN ?_
   refine V.ret ?_
   refine V.bR ?_
   refine V.tR ?_
   refine V.tR ?_
   refine V.bR ?_
   refine V.tR ?_
   refine V.done rfl ?_
   exact ⟨congrArg Value.bool (by first | exact (fitsA_many (by omega)).symm), HG⟩
  ·
   try replace g4_2 := V.dec g4_2
   try simp only [V.mk0, V.mk1, V.mk2, V.mk3] at g4_2
   refine V.run T_ok 1 rfl ?_
   refine V.yes rfl rfl rfl ?_
   refine V.loadO T_ok Fk2 rfl rfl rfl rfl rfl ?_
   refine V.run T_ok 1 rfl ?_
   refine V.yes rfl rfl rfl ?_
   refine V.elem T_ok F_ws rfl rfl sz49 rfl rfl rfl rfl (by first | omega | (simp only [List.length_take, List.length_drop, List.length_append, List.length_cons, List.length_nil, List.length_replicate, List.length_set, V.length_data, V.S_size]; omega)) (by first | omega | (simp only [List.length_take, List.length_drop, List.length_append, List.length_cons, List.length_nil, List.length_replicate, List.length_set, V.length_data, V.S_size]; omega)) ?_
   rintro b11 o12 cs13 hx14 hb15 hR18 hA16
   obtain ⟨x17, hx17⟩ : ∃ z', ws[((i : Int)).toNat] = z' := ⟨_, rfl⟩
   rw [hx17] at hR18
   obtain ⟨_, _, rfl, rfl, rfl⟩ := hR18
   try simp only [Int.toNat_natCast] at hx17 hx14
   refine V.run T_ok 1 rfl ?_
   refine V.yes rfl rfl rfl ?_
   refine V.loadA T_ok (o0 := o12) (off := 0) hA16 rfl rfl rfl rfl rfl ?_
   refine V.run T_ok 3 rfl ?_
   refine V.nil ?_
   refine V.tN ?_
   refine V.condT rfl (fun h4 => ?_) (fun h4 => ?_)
   ·
    try replace h4 := V.dec h4
    try simp only [V.mk0, V.mk1, V.mk2, V.mk3] at h4
    refine V.seq ?_
    refine V.region ?_
    refine V.run T_ok 1 rfl ?_
    refine V.nil ?_
    refine V.tN ?_
    refine V.ret ?_
    refine V.bR ?_
    refine V.tR ?_
    refine V.tR ?_
    refine V.bR ?_
    refine V.tR ?_
    refine V.done rfl ?_
    exact ⟨congrArg Value.bool (by first | exact (fitsA_many (by omega)).symm | exact (fitsA_long (by omega) hx17 (by omega)).symm), HG⟩
   ·
    try replace h4 := V.dec h4
    try simp only [V.mk0, V.mk1, V.mk2, V.mk3] at h4
    refine V.skip ?_
    refine V.bN ?_
    refine V.tN ?_
    refine V.region ?_
    refine V.run T_ok 1 rfl ?_
    refine V.addN rfl rfl rfl rfl rfl (by first | omega | (simp only [List.length_take, List.length_drop, List.length_append, List.length_cons, List.length_nil, List.length_replicate, List.length_set, V.length_data, V.S_size]; omega)) (by first | omega | (simp only [List.length_take, List.length_drop, List.length_append, List.length_cons, List.length_nil, List.length_replicate, List.length_set, V.length_data, V.S_size]; omega)) ?_
    refine V.run T_ok 1 rfl ?_
    refine V.nil ?_
    refine V.tN ?_
    exact ⟨_, (by omega), HG, (by omega), F_ws, Fk2, (i + 1), rfl, (by omega), (by omega), (fun j hj h => by rcases Nat.lt_or_ge j i with h2 | h2; exact hno j hj h2; obtain rfl : j = i := (by omega); subst_vars; omega), rfl, rfl⟩
 ·
  try replace h2 := V.dec h2
  try simp only [V.mk0, V.mk1, V.mk2, V.mk3] at h2
  refine V.exit ?_
  refine V.tX ?_
  refine V.tX ?_
  refine V.bE ?_
  refine V.tN ?_
  refine V.seq ?_
  refine V.region ?_
  refine V.run T_ok 1 rfl ?_
  refine V.nil ?_
  refine V.tN ?_
  refine V.ret ?_
  refine V.done rfl ?_
  exact ⟨congrArg Value.bool (fitsA_all (by omega) (fun j hj => hno j hj (by omega))).symm, HG⟩

set_option maxHeartbeats 4000000 in
set_option maxRecDepth 10000 in
theorem do_spec {w : World}  {ki : Int} {ep : Int} {aw : Int} {al : Int} {nw : Int} {nl : Int} {D_ws : Nat → Prop} {c_ws : Nat} {a_ws : Option Addr} {ws : List (ByteArray × Int)} (F_ws : Sl V.Cod.write w D_ws a_ws c_ws ws) (hD_ws : ∀ k, D_ws k → k < w.heap.size) {co : Bool} {sg : Bool} {mi : Int} {me : Int} {an : ByteArray} {sw : Int} {sl : Int} {pr : Int} {d : RecV} {D_o : Nat → Prop} {c_o : Nat} {a_o : Option Addr} (F_o : Sl V.Cod.write w D_o a_o c_o d.ws) (hD_o : ∀ k, D_o k → k < w.heap.size) (hl : d.ws.length ≤ 5864062014805) (hlw : ws.length ≤ 5864062014805) (hw : keysOk ws) :
    Meets Try.prog 15 [.agg #[.int .i64 ki, .int .i64 ep, .int .i64 aw, .int .i64 al, .int .i64 nw, .int .i64 nl, .slice a_ws ws.length c_ws, .bool co, .bool sg, .int .i64 mi, .int .i64 me, .string an, .int .i64 sw, .int .i64 sl, .int .i64 pr], .agg #[.int .i64 d.id, .int .i64 d.ep, .int .i64 d.st, .int .i64 d.aw, .int .i64 d.al, .int .i64 d.bw, .int .i64 d.bl, .slice a_o d.ws.length c_o]] w fun r w' => ∃ (ra29 : Option Addr) (rc29 : Nat), r = .tuple #[.agg #[.int .i64 ((play d ki ep aw al nw nl ws co sg mi me sw sl pr).1.id), .int .i64 ((play d ki ep aw al nw nl ws co sg mi me sw sl pr).1.ep), .int .i64 ((play d ki ep aw al nw nl ws co sg mi me sw sl pr).1.st), .int .i64 ((play d ki ep aw al nw nl ws co sg mi me sw sl pr).1.aw), .int .i64 ((play d ki ep aw al nw nl ws co sg mi me sw sl pr).1.al), .int .i64 ((play d ki ep aw al nw nl ws co sg mi me sw sl pr).1.bw), .int .i64 ((play d ki ep aw al nw nl ws co sg mi me sw sl pr).1.bl), .slice ra29 ((play d ki ep aw al nw nl ws co sg mi me sw sl pr).1.ws).length rc29], .int .i64 ((play d ki ep aw al nw nl ws co sg mi me sw sl pr).2)] ∧ Sl V.Cod.write w' (V.In w.heap.size w'.heap.size) ra29 rc29 ((play d ki ep aw al nw nl ws co sg mi me sw sl pr).1.ws) ∧ Gr w w' := by
 have HG := V.Fr.refl [] w
 refine V.enter (n := 56) Try.func15 rfl rfl (by decide) rfl ?_
 refine V.seq ?_
 refine V.region ?_
 refine V.box rfl rfl rfl rfl ?_
 rintro k1 w3 s5 s6 G4 Fk2
 have z7 := V.Fr.size G4
 try replace F_ws := F_ws.gr G4
 try replace F_o := F_o.gr G4
 replace HG := HG.grow G4
 clear G4
 try simp only [V.cellsL, V.spliceL] at Fk2
 refine V.box rfl rfl rfl rfl ?_
 rintro k8 w10 s12 s13 G11 Fk9
 have z14 := V.Fr.size G11
 try replace F_ws := F_ws.gr G11
 try replace F_o := F_o.gr G11
 try replace Fk2 := Fk2.gr G11
 replace HG := HG.grow G11
 clear G11
 try simp only [V.cellsL, V.spliceL] at Fk9
 refine V.alloc zero27 rfl rfl rfl ?_
 rintro k15 w17 s19 s20 G18 Fk16
 have z21 := V.Fr.size G18
 try replace F_ws := F_ws.gr G18
 try replace F_o := F_o.gr G18
 try replace Fk2 := Fk2.gr G18
 try replace Fk9 := Fk9.gr G18
 replace HG := HG.grow G18
 clear G18
 try simp only [V.cellsL, V.spliceL] at Fk16
 refine V.run T_ok 1 rfl ?_
 refine V.nil ?_
 refine V.tN ?_
 refine V.seq ?_
 refine V.seq ?_
 refine V.region ?_
 refine V.run T_ok 1 rfl ?_
 refine V.loadO T_ok Fk2 rfl rfl rfl rfl rfl ?_
 refine V.nil ?_
 refine V.tN ?_
 refine V.block ?_
 refine V.seq ?_
 refine V.region ?_
 refine V.run T_ok 2 rfl ?_
 refine V.nil ?_
 refine V.tN ?_
 refine V.condT rfl (fun h2 => ?_) (fun h2 => ?_)
 ·
  try replace h2 := V.dec h2
  try simp only [V.mk0, V.mk1, V.mk2, V.mk3] at h2
  refine V.seq ?_
  refine V.region ?_
  refine V.loadO T_ok Fk9 rfl rfl rfl rfl rfl ?_
  refine V.run T_ok 1 rfl ?_
  refine V.loadO T_ok Fk2 rfl rfl rfl rfl rfl ?_
  refine V.run T_ok 1 rfl ?_
  refine V.loadO T_ok Fk2 rfl rfl rfl rfl rfl ?_
  refine V.call (beat_spec (ep := ep) (nw := nw) (nl := nl) (d := d) F_o (fun k hk => by have := hD_o k hk; omega) (by first | assumption | omega | decide)) rfl rfl rfl ?_
  rintro _ w25 ⟨a22, c23, rfl, F24, G26⟩
  have z27 := V.Fr.size G26
  try replace F_ws := F_ws.gr G26
  try replace F_o := F_o.gr G26
  try replace Fk2 := Fk2.gr G26
  try replace Fk9 := Fk9.gr G26
  try replace Fk16 := Fk16.gr G26
  replace HG := HG.grow G26
  clear G26
  refine V.run T_ok 2 rfl ?_
  refine V.storeO Fk16 rfl rfl rfl rfl sz27 rfl rfl rfl rfl ?_
  rintro w28 G29 z31 Fs30
  clear Fk16
  have z32 := V.Fr.size G29
  first | replace F_ws := F_ws.mb G29 hD_ws | clear F_ws | skip
  first | replace F_o := F_o.mb G29 hD_o | clear F_o | skip
  first | replace Fk2 := Fk2.mv1 G29 (by omega) | clear Fk2 | skip
  first | replace Fk9 := Fk9.mv1 G29 (by omega) | clear Fk9 | skip
  first | replace F24 := F24.ma G29 | clear F24 | skip
  replace HG := HG.n1 G29
  clear G29
  have Fk16 := Fs30; clear Fs30
  simp only [V.spliceL, V.cellsL] at Fk16
  refine V.run T_ok 1 rfl ?_
  refine V.nil ?_
  refine V.tN ?_
  refine V.ret ?_
  refine V.bR ?_
  refine V.tR ?_
  refine V.done2 rfl (V.resV_cell T_ok Fk16 rfl rfl) (V.resV_tmp rfl) ?_
  first
    | rw [show play d ki ep aw al nw nl ws co sg mi me sw sl pr = rBeat d ep nw nl by simp only [play]; grind]
    | rw [show play d ki ep aw al nw nl ws co sg mi me sw sl pr = rStage d ep aw al nw nl ws by simp only [play]; grind]
    | rw [show play d ki ep aw al nw nl ws co sg mi me sw sl pr = rFinish d ep aw al co sg by simp only [play]; grind]
    | rw [show play d ki ep aw al nw nl ws co sg mi me sw sl pr = rPush d mi me sw sl nw nl pr by simp only [play]; grind]
  exact ⟨a22, c23, (by first | rfl | simp only [List.length_set]), F24.re, HG⟩
 ·
  try replace h2 := V.dec h2
  try simp only [V.mk0, V.mk1, V.mk2, V.mk3] at h2
  refine V.seq ?_
  refine V.region ?_
  refine V.run T_ok 2 rfl ?_
  refine V.nil ?_
  refine V.tN ?_
  refine V.condT rfl (fun h4 => ?_) (fun h4 => ?_)
  ·
   try replace h4 := V.dec h4
   try simp only [V.mk0, V.mk1, V.mk2, V.mk3] at h4
   refine V.seq ?_
   refine V.region ?_
   refine V.loadO T_ok Fk9 rfl rfl rfl rfl rfl ?_
   refine V.run T_ok 1 rfl ?_
   refine V.loadO T_ok Fk2 rfl rfl rfl rfl rfl ?_
   refine V.run T_ok 1 rfl ?_
   refine V.loadO T_ok Fk2 rfl rfl rfl rfl rfl ?_
   refine V.run T_ok 1 rfl ?_
   refine V.loadO T_ok Fk2 rfl rfl rfl rfl rfl ?_
   refine V.run T_ok 1 rfl ?_
   refine V.loadO T_ok Fk2 rfl rfl rfl rfl rfl ?_
   refine V.call (stage_spec (ep := ep) (aw := aw) (al := al) (nw := nw) (nl := nl) (d := d) F_o (fun k hk => by have := hD_o k hk; omega) F_ws (fun k hk => by have := hD_ws k hk; omega) (by first | assumption | omega | decide) (by first | assumption | omega | decide) (by first | assumption | (unfold keysOk; decide))) rfl rfl rfl ?_
   rintro _ w36 ⟨a33, c34, rfl, F35, G37⟩
   have z38 := V.Fr.size G37
   try replace F_ws := F_ws.gr G37
   try replace F_o := F_o.gr G37
   try replace Fk2 := Fk2.gr G37
   try replace Fk9 := Fk9.gr G37
   try replace Fk16 := Fk16.gr G37
   replace HG := HG.grow G37
   clear G37
   refine V.run T_ok 2 rfl ?_
   refine V.storeO Fk16 rfl rfl rfl rfl sz27 rfl rfl rfl rfl ?_
   rintro w39 G40 z42 Fs41
   clear Fk16
   have z43 := V.Fr.size G40
   first | replace F_ws := F_ws.mb G40 hD_ws | clear F_ws | skip
   first | replace F_o := F_o.mb G40 hD_o | clear F_o | skip
   first | replace Fk2 := Fk2.mv1 G40 (by omega) | clear Fk2 | skip
   first | replace Fk9 := Fk9.mv1 G40 (by omega) | clear Fk9 | skip
   first | replace F35 := F35.ma G40 | clear F35 | skip
   replace HG := HG.n1 G40
   clear G40
   have Fk16 := Fs41; clear Fs41
   simp only [V.spliceL, V.cellsL] at Fk16
   refine V.run T_ok 1 rfl ?_
   refine V.nil ?_
   refine V.tN ?_
   refine V.ret ?_
   refine V.bR ?_
   refine V.tR ?_
   refine V.done2 rfl (V.resV_cell T_ok Fk16 rfl rfl) (V.resV_tmp rfl) ?_
   first
     | rw [show play d ki ep aw al nw nl ws co sg mi me sw sl pr = rBeat d ep nw nl by simp only [play]; grind]
     | rw [show play d ki ep aw al nw nl ws co sg mi me sw sl pr = rStage d ep aw al nw nl ws by simp only [play]; grind]
     | rw [show play d ki ep aw al nw nl ws co sg mi me sw sl pr = rFinish d ep aw al co sg by simp only [play]; grind]
     | rw [show play d ki ep aw al nw nl ws co sg mi me sw sl pr = rPush d mi me sw sl nw nl pr by simp only [play]; grind]
   exact ⟨a33, c34, (by first | rfl | simp only [List.length_set]), F35.re, HG⟩
  ·
   try replace h4 := V.dec h4
   try simp only [V.mk0, V.mk1, V.mk2, V.mk3] at h4
   refine V.seq ?_
   refine V.region ?_
   refine V.run T_ok 2 rfl ?_
   refine V.nil ?_
   refine V.tN ?_
   refine V.condT rfl (fun h6 => ?_) (fun h6 => ?_)
   ·
    try replace h6 := V.dec h6
    try simp only [V.mk0, V.mk1, V.mk2, V.mk3] at h6
    refine V.seq ?_
    refine V.region ?_
    refine V.loadO T_ok Fk9 rfl rfl rfl rfl rfl ?_
    refine V.run T_ok 1 rfl ?_
    refine V.loadO T_ok Fk2 rfl rfl rfl rfl rfl ?_
    refine V.run T_ok 1 rfl ?_
    refine V.loadO T_ok Fk2 rfl rfl rfl rfl rfl ?_
    refine V.run T_ok 1 rfl ?_
    refine V.loadO T_ok Fk2 rfl rfl rfl rfl rfl ?_
    refine V.run T_ok 1 rfl ?_
    refine V.loadO T_ok Fk2 rfl rfl rfl rfl rfl ?_
    refine V.call (finish_spec (ep := ep) (aw := aw) (al := al) (c := co) (s := sg) (d := d) F_o (fun k hk => by have := hD_o k hk; omega) (by first | assumption | omega | decide)) rfl rfl rfl ?_
    rintro _ w47 ⟨a44, c45, rfl, F46, G48⟩
    have z49 := V.Fr.size G48
    try replace F_ws := F_ws.gr G48
    try replace F_o := F_o.gr G48
    try replace Fk2 := Fk2.gr G48
    try replace Fk9 := Fk9.gr G48
    try replace Fk16 := Fk16.gr G48
    replace HG := HG.grow G48
    clear G48
    refine V.run T_ok 2 rfl ?_
    refine V.storeO Fk16 rfl rfl rfl rfl sz27 rfl rfl rfl rfl ?_
    rintro w50 G51 z53 Fs52
    clear Fk16
    have z54 := V.Fr.size G51
    first | replace F_ws := F_ws.mb G51 hD_ws | clear F_ws | skip
    first | replace F_o := F_o.mb G51 hD_o | clear F_o | skip
    first | replace Fk2 := Fk2.mv1 G51 (by omega) | clear Fk2 | skip
    first | replace Fk9 := Fk9.mv1 G51 (by omega) | clear Fk9 | skip
    first | replace F46 := F46.ma G51 | clear F46 | skip
    replace HG := HG.n1 G51
    clear G51
    have Fk16 := Fs52; clear Fs52
    simp only [V.spliceL, V.cellsL] at Fk16
    refine V.run T_ok 1 rfl ?_
    refine V.nil ?_
    refine V.tN ?_
    refine V.ret ?_
    refine V.bR ?_
    refine V.tR ?_
    refine V.done2 rfl (V.resV_cell T_ok Fk16 rfl rfl) (V.resV_tmp rfl) ?_
    first
      | rw [show play d ki ep aw al nw nl ws co sg mi me sw sl pr = rBeat d ep nw nl by simp only [play]; grind]
      | rw [show play d ki ep aw al nw nl ws co sg mi me sw sl pr = rStage d ep aw al nw nl ws by simp only [play]; grind]
      | rw [show play d ki ep aw al nw nl ws co sg mi me sw sl pr = rFinish d ep aw al co sg by simp only [play]; grind]
      | rw [show play d ki ep aw al nw nl ws co sg mi me sw sl pr = rPush d mi me sw sl nw nl pr by simp only [play]; grind]
    exact ⟨a44, c45, (by first | rfl | simp only [List.length_set]), F46.re, HG⟩
   ·
    try replace h6 := V.dec h6
    try simp only [V.mk0, V.mk1, V.mk2, V.mk3] at h6
    refine V.skip ?_
    refine V.bN ?_
    refine V.tN ?_
    refine V.seq ?_
    refine V.region ?_
    refine V.loadO T_ok Fk9 rfl rfl rfl rfl rfl ?_
    refine V.run T_ok 1 rfl ?_
    refine V.loadO T_ok Fk2 rfl rfl rfl rfl rfl ?_
    refine V.run T_ok 1 rfl ?_
    refine V.loadO T_ok Fk2 rfl rfl rfl rfl rfl ?_
    refine V.run T_ok 1 rfl ?_
    refine V.loadO T_ok Fk2 rfl rfl rfl rfl rfl ?_
    refine V.call (push_spec (mi := mi) (me := me) (an := an) (sw := sw) (sl := sl) (nw := nw) (nl := nl) (pr := pr) (d := d) F_o (fun k hk => by have := hD_o k hk; omega) (by first | assumption | omega | decide)) rfl rfl rfl ?_
    rintro _ w58 ⟨a55, c56, rfl, F57, G59⟩
    have z60 := V.Fr.size G59
    try replace F_ws := F_ws.gr G59
    try replace F_o := F_o.gr G59
    try replace Fk2 := Fk2.gr G59
    try replace Fk9 := Fk9.gr G59
    try replace Fk16 := Fk16.gr G59
    replace HG := HG.grow G59
    clear G59
    refine V.run T_ok 2 rfl ?_
    refine V.storeO Fk16 rfl rfl rfl rfl sz27 rfl rfl rfl rfl ?_
    rintro w61 G62 z64 Fs63
    clear Fk16
    have z65 := V.Fr.size G62
    first | replace F_ws := F_ws.mb G62 hD_ws | clear F_ws | skip
    first | replace F_o := F_o.mb G62 hD_o | clear F_o | skip
    first | replace Fk2 := Fk2.mv1 G62 (by omega) | clear Fk2 | skip
    first | replace Fk9 := Fk9.mv1 G62 (by omega) | clear Fk9 | skip
    first | replace F57 := F57.ma G62 | clear F57 | skip
    replace HG := HG.n1 G62
    clear G62
    have Fk16 := Fs63; clear Fs63
    simp only [V.spliceL, V.cellsL] at Fk16
    refine V.run T_ok 1 rfl ?_
    refine V.nil ?_
    refine V.tN ?_
    refine V.ret ?_
    refine V.done2 rfl (V.resV_cell T_ok Fk16 rfl rfl) (V.resV_tmp rfl) ?_
    first
      | rw [show play d ki ep aw al nw nl ws co sg mi me sw sl pr = rBeat d ep nw nl by simp only [play]; grind]
      | rw [show play d ki ep aw al nw nl ws co sg mi me sw sl pr = rStage d ep aw al nw nl ws by simp only [play]; grind]
      | rw [show play d ki ep aw al nw nl ws co sg mi me sw sl pr = rFinish d ep aw al co sg by simp only [play]; grind]
      | rw [show play d ki ep aw al nw nl ws co sg mi me sw sl pr = rPush d mi me sw sl nw nl pr by simp only [play]; grind]
    exact ⟨a55, c56, (by first | rfl | simp only [List.length_set]), F57.re, HG⟩

set_option maxHeartbeats 4000000 in
set_option maxRecDepth 10000 in
theorem doref_spec {w : World}  {ki : Int} {ep : Int} {aw : Int} {al : Int} {nw : Int} {nl : Int} {D_ws : Nat → Prop} {c_ws : Nat} {a_ws : Option Addr} {ws : List (ByteArray × Int)} (F_ws : Sl V.Cod.write w D_ws a_ws c_ws ws) (hD_ws : ∀ k, D_ws k → k < w.heap.size) {co : Bool} {sg : Bool} {mi : Int} {me : Int} {an : ByteArray} {sw : Int} {sl : Int} {pr : Int} {d : RecV} {D_o : Nat → Prop} {c_o : Nat} {a_o : Option Addr} (F_o : Sl V.Cod.write w D_o a_o c_o d.ws) (hD_o : ∀ k, D_o k → k < w.heap.size) (hl : d.ws.length ≤ 5864062014805) (hlw : ws.length ≤ 5864062014805) (hw : keysOk ws) :
    Meets Try.prog 16 [.agg #[.int .i64 ki, .int .i64 ep, .int .i64 aw, .int .i64 al, .int .i64 nw, .int .i64 nl, .slice a_ws ws.length c_ws, .bool co, .bool sg, .int .i64 mi, .int .i64 me, .string an, .int .i64 sw, .int .i64 sl, .int .i64 pr], .agg #[.int .i64 d.id, .int .i64 d.ep, .int .i64 d.st, .int .i64 d.aw, .int .i64 d.al, .int .i64 d.bw, .int .i64 d.bl, .slice a_o d.ws.length c_o]] w fun r w' => ∃ (ra30 : Option Addr) (rc30 : Nat), r = .tuple #[.agg #[.int .i64 ((play d ki ep aw al nw nl ws co sg mi me sw sl pr).1.id), .int .i64 ((play d ki ep aw al nw nl ws co sg mi me sw sl pr).1.ep), .int .i64 ((play d ki ep aw al nw nl ws co sg mi me sw sl pr).1.st), .int .i64 ((play d ki ep aw al nw nl ws co sg mi me sw sl pr).1.aw), .int .i64 ((play d ki ep aw al nw nl ws co sg mi me sw sl pr).1.al), .int .i64 ((play d ki ep aw al nw nl ws co sg mi me sw sl pr).1.bw), .int .i64 ((play d ki ep aw al nw nl ws co sg mi me sw sl pr).1.bl), .slice ra30 ((play d ki ep aw al nw nl ws co sg mi me sw sl pr).1.ws).length rc30], .int .i64 ((play d ki ep aw al nw nl ws co sg mi me sw sl pr).2)] ∧ Sl V.Cod.write w' (V.In w.heap.size w'.heap.size) ra30 rc30 ((play d ki ep aw al nw nl ws co sg mi me sw sl pr).1.ws) ∧ Gr w w' := by
 have HG := V.Fr.refl [] w
 refine V.enter (n := 56) Try.func16 rfl rfl (by decide) rfl ?_
 refine V.seq ?_
 refine V.region ?_
 refine V.box rfl rfl rfl rfl ?_
 rintro k1 w3 s5 s6 G4 Fk2
 have z7 := V.Fr.size G4
 try replace F_ws := F_ws.gr G4
 try replace F_o := F_o.gr G4
 replace HG := HG.grow G4
 clear G4
 try simp only [V.cellsL, V.spliceL] at Fk2
 refine V.box rfl rfl rfl rfl ?_
 rintro k8 w10 s12 s13 G11 Fk9
 have z14 := V.Fr.size G11
 try replace F_ws := F_ws.gr G11
 try replace F_o := F_o.gr G11
 try replace Fk2 := Fk2.gr G11
 replace HG := HG.grow G11
 clear G11
 try simp only [V.cellsL, V.spliceL] at Fk9
 refine V.alloc zero27 rfl rfl rfl ?_
 rintro k15 w17 s19 s20 G18 Fk16
 have z21 := V.Fr.size G18
 try replace F_ws := F_ws.gr G18
 try replace F_o := F_o.gr G18
 try replace Fk2 := Fk2.gr G18
 try replace Fk9 := Fk9.gr G18
 replace HG := HG.grow G18
 clear G18
 try simp only [V.cellsL, V.spliceL] at Fk16
 refine V.run T_ok 1 rfl ?_
 refine V.nil ?_
 refine V.tN ?_
 refine V.seq ?_
 refine V.seq ?_
 refine V.region ?_
 refine V.run T_ok 1 rfl ?_
 refine V.loadO T_ok Fk2 rfl rfl rfl rfl rfl ?_
 refine V.nil ?_
 refine V.tN ?_
 refine V.block ?_
 refine V.seq ?_
 refine V.region ?_
 refine V.run T_ok 2 rfl ?_
 refine V.nil ?_
 refine V.tN ?_
 refine V.condT rfl (fun h2 => ?_) (fun h2 => ?_)
 ·
  try replace h2 := V.dec h2
  try simp only [V.mk0, V.mk1, V.mk2, V.mk3] at h2
  refine V.seq ?_
  refine V.region ?_
  refine V.loadO T_ok Fk9 rfl rfl rfl rfl rfl ?_
  refine V.run T_ok 1 rfl ?_
  refine V.loadO T_ok Fk2 rfl rfl rfl rfl rfl ?_
  refine V.run T_ok 1 rfl ?_
  refine V.loadO T_ok Fk2 rfl rfl rfl rfl rfl ?_
  refine V.call (rbeat_spec (ep := ep) (nw := nw) (nl := nl) (d := d) F_o (fun k hk => by have := hD_o k hk; omega) (by first | assumption | omega | decide)) rfl rfl rfl ?_
  rintro _ w25 ⟨a22, c23, rfl, F24, G26⟩
  have z27 := V.Fr.size G26
  try replace F_ws := F_ws.gr G26
  try replace F_o := F_o.gr G26
  try replace Fk2 := Fk2.gr G26
  try replace Fk9 := Fk9.gr G26
  try replace Fk16 := Fk16.gr G26
  replace HG := HG.grow G26
  clear G26
  refine V.run T_ok 2 rfl ?_
  refine V.storeO Fk16 rfl rfl rfl rfl sz27 rfl rfl rfl rfl ?_
  rintro w28 G29 z31 Fs30
  clear Fk16
  have z32 := V.Fr.size G29
  first | replace F_ws := F_ws.mb G29 hD_ws | clear F_ws | skip
  first | replace F_o := F_o.mb G29 hD_o | clear F_o | skip
  first | replace Fk2 := Fk2.mv1 G29 (by omega) | clear Fk2 | skip
  first | replace Fk9 := Fk9.mv1 G29 (by omega) | clear Fk9 | skip
  first | replace F24 := F24.ma G29 | clear F24 | skip
  replace HG := HG.n1 G29
  clear G29
  have Fk16 := Fs30; clear Fs30
  simp only [V.spliceL, V.cellsL] at Fk16
  refine V.run T_ok 1 rfl ?_
  refine V.nil ?_
  refine V.tN ?_
  refine V.ret ?_
  refine V.bR ?_
  refine V.tR ?_
  refine V.done2 rfl (V.resV_cell T_ok Fk16 rfl rfl) (V.resV_tmp rfl) ?_
  first
    | rw [show play d ki ep aw al nw nl ws co sg mi me sw sl pr = rBeat d ep nw nl by simp only [play]; grind]
    | rw [show play d ki ep aw al nw nl ws co sg mi me sw sl pr = rStage d ep aw al nw nl ws by simp only [play]; grind]
    | rw [show play d ki ep aw al nw nl ws co sg mi me sw sl pr = rFinish d ep aw al co sg by simp only [play]; grind]
    | rw [show play d ki ep aw al nw nl ws co sg mi me sw sl pr = rPush d mi me sw sl nw nl pr by simp only [play]; grind]
  exact ⟨a22, c23, (by first | rfl | simp only [List.length_set]), F24.re, HG⟩
 ·
  try replace h2 := V.dec h2
  try simp only [V.mk0, V.mk1, V.mk2, V.mk3] at h2
  refine V.seq ?_
  refine V.region ?_
  refine V.run T_ok 2 rfl ?_
  refine V.nil ?_
  refine V.tN ?_
  refine V.condT rfl (fun h4 => ?_) (fun h4 => ?_)
  ·
   try replace h4 := V.dec h4
   try simp only [V.mk0, V.mk1, V.mk2, V.mk3] at h4
   refine V.seq ?_
   refine V.region ?_
   refine V.loadO T_ok Fk9 rfl rfl rfl rfl rfl ?_
   refine V.run T_ok 1 rfl ?_
   refine V.loadO T_ok Fk2 rfl rfl rfl rfl rfl ?_
   refine V.run T_ok 1 rfl ?_
   refine V.loadO T_ok Fk2 rfl rfl rfl rfl rfl ?_
   refine V.run T_ok 1 rfl ?_
   refine V.loadO T_ok Fk2 rfl rfl rfl rfl rfl ?_
   refine V.run T_ok 1 rfl ?_
   refine V.loadO T_ok Fk2 rfl rfl rfl rfl rfl ?_
   refine V.call (rstage_spec (ep := ep) (aw := aw) (al := al) (nw := nw) (nl := nl) (d := d) F_o (fun k hk => by have := hD_o k hk; omega) F_ws (fun k hk => by have := hD_ws k hk; omega) (by first | assumption | omega | decide) (by first | assumption | omega | decide) (by first | assumption | (unfold keysOk; decide))) rfl rfl rfl ?_
   rintro _ w36 ⟨a33, c34, rfl, F35, G37⟩
   have z38 := V.Fr.size G37
   try replace F_ws := F_ws.gr G37
   try replace F_o := F_o.gr G37
   try replace Fk2 := Fk2.gr G37
   try replace Fk9 := Fk9.gr G37
   try replace Fk16 := Fk16.gr G37
   replace HG := HG.grow G37
   clear G37
   refine V.run T_ok 2 rfl ?_
   refine V.storeO Fk16 rfl rfl rfl rfl sz27 rfl rfl rfl rfl ?_
   rintro w39 G40 z42 Fs41
   clear Fk16
   have z43 := V.Fr.size G40
   first | replace F_ws := F_ws.mb G40 hD_ws | clear F_ws | skip
   first | replace F_o := F_o.mb G40 hD_o | clear F_o | skip
   first | replace Fk2 := Fk2.mv1 G40 (by omega) | clear Fk2 | skip
   first | replace Fk9 := Fk9.mv1 G40 (by omega) | clear Fk9 | skip
   first | replace F35 := F35.ma G40 | clear F35 | skip
   replace HG := HG.n1 G40
   clear G40
   have Fk16 := Fs41; clear Fs41
   simp only [V.spliceL, V.cellsL] at Fk16
   refine V.run T_ok 1 rfl ?_
   refine V.nil ?_
   refine V.tN ?_
   refine V.ret ?_
   refine V.bR ?_
   refine V.tR ?_
   refine V.done2 rfl (V.resV_cell T_ok Fk16 rfl rfl) (V.resV_tmp rfl) ?_
   first
     | rw [show play d ki ep aw al nw nl ws co sg mi me sw sl pr = rBeat d ep nw nl by simp only [play]; grind]
     | rw [show play d ki ep aw al nw nl ws co sg mi me sw sl pr = rStage d ep aw al nw nl ws by simp only [play]; grind]
     | rw [show play d ki ep aw al nw nl ws co sg mi me sw sl pr = rFinish d ep aw al co sg by simp only [play]; grind]
     | rw [show play d ki ep aw al nw nl ws co sg mi me sw sl pr = rPush d mi me sw sl nw nl pr by simp only [play]; grind]
   exact ⟨a33, c34, (by first | rfl | simp only [List.length_set]), F35.re, HG⟩
  ·
   try replace h4 := V.dec h4
   try simp only [V.mk0, V.mk1, V.mk2, V.mk3] at h4
   refine V.seq ?_
   refine V.region ?_
   refine V.run T_ok 2 rfl ?_
   refine V.nil ?_
   refine V.tN ?_
   refine V.condT rfl (fun h6 => ?_) (fun h6 => ?_)
   ·
    try replace h6 := V.dec h6
    try simp only [V.mk0, V.mk1, V.mk2, V.mk3] at h6
    refine V.seq ?_
    refine V.region ?_
    refine V.loadO T_ok Fk9 rfl rfl rfl rfl rfl ?_
    refine V.run T_ok 1 rfl ?_
    refine V.loadO T_ok Fk2 rfl rfl rfl rfl rfl ?_
    refine V.run T_ok 1 rfl ?_
    refine V.loadO T_ok Fk2 rfl rfl rfl rfl rfl ?_
    refine V.run T_ok 1 rfl ?_
    refine V.loadO T_ok Fk2 rfl rfl rfl rfl rfl ?_
    refine V.run T_ok 1 rfl ?_
    refine V.loadO T_ok Fk2 rfl rfl rfl rfl rfl ?_
    refine V.call (rfinish_spec (ep := ep) (aw := aw) (al := al) (c := co) (s := sg) (d := d) F_o (fun k hk => by have := hD_o k hk; omega) (by first | assumption | omega | decide)) rfl rfl rfl ?_
    rintro _ w47 ⟨a44, c45, rfl, F46, G48⟩
    have z49 := V.Fr.size G48
    try replace F_ws := F_ws.gr G48
    try replace F_o := F_o.gr G48
    try replace Fk2 := Fk2.gr G48
    try replace Fk9 := Fk9.gr G48
    try replace Fk16 := Fk16.gr G48
    replace HG := HG.grow G48
    clear G48
    refine V.run T_ok 2 rfl ?_
    refine V.storeO Fk16 rfl rfl rfl rfl sz27 rfl rfl rfl rfl ?_
    rintro w50 G51 z53 Fs52
    clear Fk16
    have z54 := V.Fr.size G51
    first | replace F_ws := F_ws.mb G51 hD_ws | clear F_ws | skip
    first | replace F_o := F_o.mb G51 hD_o | clear F_o | skip
    first | replace Fk2 := Fk2.mv1 G51 (by omega) | clear Fk2 | skip
    first | replace Fk9 := Fk9.mv1 G51 (by omega) | clear Fk9 | skip
    first | replace F46 := F46.ma G51 | clear F46 | skip
    replace HG := HG.n1 G51
    clear G51
    have Fk16 := Fs52; clear Fs52
    simp only [V.spliceL, V.cellsL] at Fk16
    refine V.run T_ok 1 rfl ?_
    refine V.nil ?_
    refine V.tN ?_
    refine V.ret ?_
    refine V.bR ?_
    refine V.tR ?_
    refine V.done2 rfl (V.resV_cell T_ok Fk16 rfl rfl) (V.resV_tmp rfl) ?_
    first
      | rw [show play d ki ep aw al nw nl ws co sg mi me sw sl pr = rBeat d ep nw nl by simp only [play]; grind]
      | rw [show play d ki ep aw al nw nl ws co sg mi me sw sl pr = rStage d ep aw al nw nl ws by simp only [play]; grind]
      | rw [show play d ki ep aw al nw nl ws co sg mi me sw sl pr = rFinish d ep aw al co sg by simp only [play]; grind]
      | rw [show play d ki ep aw al nw nl ws co sg mi me sw sl pr = rPush d mi me sw sl nw nl pr by simp only [play]; grind]
    exact ⟨a44, c45, (by first | rfl | simp only [List.length_set]), F46.re, HG⟩
   ·
    try replace h6 := V.dec h6
    try simp only [V.mk0, V.mk1, V.mk2, V.mk3] at h6
    refine V.skip ?_
    refine V.bN ?_
    refine V.tN ?_
    refine V.seq ?_
    refine V.region ?_
    refine V.loadO T_ok Fk9 rfl rfl rfl rfl rfl ?_
    refine V.run T_ok 1 rfl ?_
    refine V.loadO T_ok Fk2 rfl rfl rfl rfl rfl ?_
    refine V.run T_ok 1 rfl ?_
    refine V.loadO T_ok Fk2 rfl rfl rfl rfl rfl ?_
    refine V.run T_ok 1 rfl ?_
    refine V.loadO T_ok Fk2 rfl rfl rfl rfl rfl ?_
    refine V.call (rpush_spec (mi := mi) (me := me) (an := an) (sw := sw) (sl := sl) (nw := nw) (nl := nl) (pr := pr) (d := d) F_o (fun k hk => by have := hD_o k hk; omega) (by first | assumption | omega | decide)) rfl rfl rfl ?_
    rintro _ w58 ⟨a55, c56, rfl, F57, G59⟩
    have z60 := V.Fr.size G59
    try replace F_ws := F_ws.gr G59
    try replace F_o := F_o.gr G59
    try replace Fk2 := Fk2.gr G59
    try replace Fk9 := Fk9.gr G59
    try replace Fk16 := Fk16.gr G59
    replace HG := HG.grow G59
    clear G59
    refine V.run T_ok 2 rfl ?_
    refine V.storeO Fk16 rfl rfl rfl rfl sz27 rfl rfl rfl rfl ?_
    rintro w61 G62 z64 Fs63
    clear Fk16
    have z65 := V.Fr.size G62
    first | replace F_ws := F_ws.mb G62 hD_ws | clear F_ws | skip
    first | replace F_o := F_o.mb G62 hD_o | clear F_o | skip
    first | replace Fk2 := Fk2.mv1 G62 (by omega) | clear Fk2 | skip
    first | replace Fk9 := Fk9.mv1 G62 (by omega) | clear Fk9 | skip
    first | replace F57 := F57.ma G62 | clear F57 | skip
    replace HG := HG.n1 G62
    clear G62
    have Fk16 := Fs63; clear Fs63
    simp only [V.spliceL, V.cellsL] at Fk16
    refine V.run T_ok 1 rfl ?_
    refine V.nil ?_
    refine V.tN ?_
    refine V.ret ?_
    refine V.done2 rfl (V.resV_cell T_ok Fk16 rfl rfl) (V.resV_tmp rfl) ?_
    first
      | rw [show play d ki ep aw al nw nl ws co sg mi me sw sl pr = rBeat d ep nw nl by simp only [play]; grind]
      | rw [show play d ki ep aw al nw nl ws co sg mi me sw sl pr = rStage d ep aw al nw nl ws by simp only [play]; grind]
      | rw [show play d ki ep aw al nw nl ws co sg mi me sw sl pr = rFinish d ep aw al co sg by simp only [play]; grind]
      | rw [show play d ki ep aw al nw nl ws co sg mi me sw sl pr = rPush d mi me sw sl nw nl pr by simp only [play]; grind]
    exact ⟨a55, c56, (by first | rfl | simp only [List.length_set]), F57.re, HG⟩

end Go.Proofs.Ytaokenlcjkomhaa
