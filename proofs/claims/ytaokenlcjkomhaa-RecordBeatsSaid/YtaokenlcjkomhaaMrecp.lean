/- Proved here: walks: what functions of this seat's program return and what they leave of memory, each as a contract. Conditions: stated at each theorem. -/
import Derived.Test.YtaokenlcjkomhaaMrec
namespace Go.Proofs.Ytaokenlcjkomhaa
set_option linter.unusedVariables false
set_option linter.unusedSimpArgs false
open Go
open V (Bytes Meets Env Sl Own Gr Fr Cells S)

def decR (d : RecV) (ep aw al : Int) (c : Bool) : RecV := if c = true then ⟨d.id, ep, 3, aw, al, d.bw, d.bl, []⟩ else ⟨d.id, ep, 4, 0, 0, d.bw, d.bl, []⟩
def rRecov (d : RecV) (ep aw al : Int) (c : Bool) : RecV × Int :=
  if d.st = 3 ∨ d.st = 4 then (d, 0) else if ¬ d.st = 2 ∨ ¬ d.ep = ep ∨ ¬ (d.aw = aw ∧ d.al = al) then (d, 84) else (decR d ep aw al c, 0)
def rFinish (d : RecV) (ep aw al : Int) (c s : Bool) : RecV × Int :=
  if ¬ ((0 ≤ ep ∧ ep ≤ 1099511627776) ∧ stR aw al) then (d, 1) else if s = true then rRecov d ep aw al c
  else if d.st = 3 then (d, if c = true then 0 else 83) else if d.st = 4 then (d, if c = true then 122 else 0)
  else if ep < d.ep then (d, 84) else if d.st = 2 ∧ (c = false ∨ d.ep < ep ∨ ¬ (d.aw = aw ∧ d.al = al)) then (d, 123) else (decR d ep aw al c, 0)
def rStage (d : RecV) (ep aw al nw nl : Int) (ws : List (ByteArray × Int)) : RecV × Int :=
  if ¬ ((0 ≤ ep ∧ ep ≤ 1099511627776) ∧ stR aw al ∧ stR nw nl ∧ wrB ws = true) then (d, 1) else if d.st = 3 then (d, 83) else if d.st = 4 then (d, 122)
  else if ep < d.ep ∨ d.st = 2 ∧ d.ep = ep ∧ (aw < d.aw ∨ aw = d.aw ∧ al < d.al) then (d, 84)
  else (⟨d.id, ep, 2, aw, al, (maxSt d.bw d.bl nw nl).1, (maxSt d.bw d.bl nw nl).2, ws⟩, 0)
def rPush (d : RecV) (mi me sw sl nw nl pr : Int) : RecV × Int :=
  if ¬ ((0 ≤ me ∧ me ≤ 1099511627776) ∧ stR nw nl ∧ stR sw sl) then (d, 1) else if d.st = 3 ∨ d.st = 4 then (d, 0)
  else if mi ≤ pr ∧ nw ≤ IntKind.i64.wrap ((if d.st = 0 then sw else d.bw) + 40) then (d, 121) else if d.st = 2 then (d, 123) else (decR d (max d.ep me) 0 0 false, 0)

set_option maxHeartbeats 4000000 in
set_option maxRecDepth 10000 in
theorem decided_spec {w : World} {d : RecV} {D_o : Nat → Prop} {c_o : Nat} {a_o : Option Addr} (F_o : Sl V.Cod.write w D_o a_o c_o d.ws) (hD_o : ∀ k, D_o k → k < w.heap.size) {ep : Int} {aw : Int} {al : Int} {c : Bool}  :
    Meets Try.prog 40 [.agg #[.int .i64 d.id, .int .i64 d.ep, .int .i64 d.st, .int .i64 d.aw, .int .i64 d.al, .int .i64 d.bw, .int .i64 d.bl, .slice a_o d.ws.length c_o], .int .i64 ep, .agg #[.int .i64 aw, .int .i64 al], .bool c] w fun r w' => ∃ (ra23 : Option Addr) (rc23 : Nat), r = .agg #[.int .i64 ((decR d ep aw al c).id), .int .i64 ((decR d ep aw al c).ep), .int .i64 ((decR d ep aw al c).st), .int .i64 ((decR d ep aw al c).aw), .int .i64 ((decR d ep aw al c).al), .int .i64 ((decR d ep aw al c).bw), .int .i64 ((decR d ep aw al c).bl), .slice ra23 ((decR d ep aw al c).ws).length rc23] ∧ Sl V.Cod.write w' (V.In w.heap.size w'.heap.size) ra23 rc23 ((decR d ep aw al c).ws) ∧ Gr w w' := by
 have HG := V.Fr.refl [] w
 refine V.enter (n := 21) Try.func40 rfl rfl (by decide) rfl ?_
 refine V.seq ?_
 refine V.region ?_
 refine V.box rfl rfl rfl rfl ?_
 rintro k1 w3 s5 s6 G4 Fk2
 have z7 := V.Fr.size G4
 try replace F_o := F_o.gr G4
 replace HG := HG.grow G4
 clear G4
 try simp only [V.cellsL, V.spliceL] at Fk2
 refine V.box rfl rfl rfl rfl ?_
 rintro k8 w10 s12 s13 G11 Fk9
 have z14 := V.Fr.size G11
 try replace F_o := F_o.gr G11
 try replace Fk2 := Fk2.gr G11
 replace HG := HG.grow G11
 clear G11
 try simp only [V.cellsL, V.spliceL] at Fk9
 refine V.alloc zero27 rfl rfl rfl ?_
 rintro k15 w17 s19 s20 G18 Fk16
 have z21 := V.Fr.size G18
 try replace F_o := F_o.gr G18
 try replace Fk2 := Fk2.gr G18
 try replace Fk9 := Fk9.gr G18
 replace HG := HG.grow G18
 clear G18
 try simp only [V.cellsL, V.spliceL] at Fk16
 refine V.nil ?_
 refine V.tN ?_
 refine V.seq ?_
 refine V.region ?_
 refine V.run T_ok 1 rfl ?_
 refine V.loadO T_ok Fk2 rfl rfl rfl rfl rfl ?_
 refine V.run T_ok 2 rfl ?_
 refine V.loadO T_ok Fk2 rfl rfl rfl rfl rfl ?_
 refine V.mkStruct T_ok zero27 rfl rfl rfl rfl rfl ?_
 refine V.alloc zero27 rfl rfl rfl ?_
 rintro k22 w24 s26 s27 G25 Fk23
 have z28 := V.Fr.size G25
 try replace F_o := F_o.gr G25
 try replace Fk2 := Fk2.gr G25
 try replace Fk9 := Fk9.gr G25
 try replace Fk16 := Fk16.gr G25
 replace HG := HG.grow G25
 clear G25
 try simp only [V.cellsL, V.spliceL] at Fk23
 refine V.storeO Fk23 rfl rfl rfl rfl sz27 rfl rfl rfl rfl ?_
 rintro w29 G30 z32 Fs31
 clear Fk23
 have z33 := V.Fr.size G30
 first | replace F_o := F_o.mb G30 hD_o | clear F_o | skip
 first | replace Fk2 := Fk2.mv1 G30 (by omega) | clear Fk2 | skip
 first | replace Fk9 := Fk9.mv1 G30 (by omega) | clear Fk9 | skip
 first | replace Fk16 := Fk16.mv1 G30 (by omega) | clear Fk16 | skip
 replace HG := HG.n1 G30
 clear G30
 have Fk23 := Fs31; clear Fs31
 simp only [V.spliceL, V.cellsL] at Fk23
 refine V.nil ?_
 refine V.tN ?_
 refine V.seq ?_
 refine V.seq ?_
 refine V.region ?_
 refine V.run T_ok 1 rfl ?_
 refine V.nil ?_
 refine V.tN ?_
 refine V.condT rfl (fun h2 => ?_) (fun h2 => ?_)
 ·
  try replace h2 := V.dec h2
  try simp only [V.mk0, V.mk1, V.mk2, V.mk3] at h2
  refine V.drawMT 3 (fun w_ => V.Fr [k22] w29 w_) (fun i => Nat.beq i 2) (fun _ g => g.mono (by simp)) mixed (by kernel_rfl) (by kernel_rfl) ?_
  refine V.mloadO T_ok (fun w' g => Fk9.mv g (by intro i hi; simp at hi; omega)) rfl rfl rfl rfl rfl rfl ?_
  refine V.mrun T_ok 1 rfl rfl ?_
  refine V.mstore (fun _ _ h => Fk23.gr h) (fun _ _ a b => V.Fr.dup a b) rfl rfl rfl rfl sz22 rfl rfl rfl rfl rfl ?_
  refine V.mnil ?_
  rintro w36 - h34
  obtain ⟨w35, G37, G38, z39, Fnew⟩ := h34
  have z40 := V.Fr.size G37
  try replace F_o := F_o.gr G37
  try replace Fk2 := Fk2.gr G37
  try replace Fk9 := Fk9.gr G37
  try replace Fk16 := Fk16.gr G37
  try replace Fk23 := Fk23.gr G37
  replace HG := HG.grow G37
  clear G37
  clear Fk23
  have z41 := V.Fr.size G38
  first | replace F_o := F_o.mb G38 hD_o | clear F_o | skip
  first | replace Fk2 := Fk2.mv1 G38 (by omega) | clear Fk2 | skip
  first | replace Fk9 := Fk9.mv1 G38 (by omega) | clear Fk9 | skip
  first | replace Fk16 := Fk16.mv1 G38 (by omega) | clear Fk16 | skip
  replace HG := HG.n1 G38
  clear G38
  have Fk23 := Fnew; clear Fnew
  try simp only [V.spliceL, V.cellsL] at Fk23
  refine V.run T_ok 1 rfl ?_
  refine V.storeO Fk23 rfl rfl rfl rfl sz24 rfl rfl rfl rfl ?_
  rintro w42 G43 z45 Fs44
  clear Fk23
  have z46 := V.Fr.size G43
  first | replace F_o := F_o.mb G43 hD_o | clear F_o | skip
  first | replace Fk2 := Fk2.mv1 G43 (by omega) | clear Fk2 | skip
  first | replace Fk9 := Fk9.mv1 G43 (by omega) | clear Fk9 | skip
  first | replace Fk16 := Fk16.mv1 G43 (by omega) | clear Fk16 | skip
  replace HG := HG.n1 G43
  clear G43
  have Fk23 := Fs44; clear Fs44
  simp only [V.spliceL, V.cellsL] at Fk23
  refine V.nil ?_
  refine V.tN ?_
  refine V.seq ?_
  refine V.region ?_
  refine V.loadO T_ok Fk23 rfl rfl rfl rfl rfl ?_
  refine V.storeO Fk16 rfl rfl rfl rfl sz27 rfl rfl rfl rfl ?_
  rintro w47 G48 z50 Fs49
  clear Fk16
  have z51 := V.Fr.size G48
  first | replace F_o := F_o.mb G48 hD_o | clear F_o | skip
  first | replace Fk2 := Fk2.mv1 G48 (by omega) | clear Fk2 | skip
  first | replace Fk9 := Fk9.mv1 G48 (by omega) | clear Fk9 | skip
  first | replace Fk23 := Fk23.mv1 G48 (by omega) | clear Fk23 | skip
  replace HG := HG.n1 G48
  clear G48
  have Fk16 := Fs49; clear Fs49
  simp only [V.spliceL, V.cellsL] at Fk16
  refine V.nil ?_
  refine V.tN ?_
  refine V.ret ?_
  refine V.done1 rfl (V.resV_cell T_ok Fk16 rfl rfl) ?_
  first
    | rw [show decR d ep aw al c = ⟨d.id, ep, 3, aw, al, d.bw, d.bl, []⟩ by simp only [decR]; grind]
    | rw [show decR d ep aw al c = ⟨d.id, ep, 4, 0, 0, d.bw, d.bl, []⟩ by simp only [decR]; grind]
  exact ⟨none, 0, (by first | rfl | simp only [List.length_set]), (Sl.nil _ _ _ _ _ (Nat.zero_le _)), HG⟩
 ·
  try replace h2 := V.dec h2
  try simp only [V.mk0, V.mk1, V.mk2, V.mk3] at h2
  refine V.skip ?_
  refine V.tN ?_
  refine V.seq ?_
  refine V.region ?_
  refine V.loadO T_ok Fk23 rfl rfl rfl rfl rfl ?_
  refine V.storeO Fk16 rfl rfl rfl rfl sz27 rfl rfl rfl rfl ?_
  rintro w52 G53 z55 Fs54
  clear Fk16
  have z56 := V.Fr.size G53
  first | replace F_o := F_o.mb G53 hD_o | clear F_o | skip
  first | replace Fk2 := Fk2.mv1 G53 (by omega) | clear Fk2 | skip
  first | replace Fk9 := Fk9.mv1 G53 (by omega) | clear Fk9 | skip
  first | replace Fk23 := Fk23.mv1 G53 (by omega) | clear Fk23 | skip
  replace HG := HG.n1 G53
  clear G53
  have Fk16 := Fs54; clear Fs54
  simp only [V.spliceL, V.cellsL] at Fk16
  refine V.nil ?_
  refine V.tN ?_
  refine V.ret ?_
  refine V.done1 rfl (V.resV_cell T_ok Fk16 rfl rfl) ?_
  first
    | rw [show decR d ep aw al c = ⟨d.id, ep, 3, aw, al, d.bw, d.bl, []⟩ by simp only [decR]; grind]
    | rw [show decR d ep aw al c = ⟨d.id, ep, 4, 0, 0, d.bw, d.bl, []⟩ by simp only [decR]; grind]
  exact ⟨none, 0, (by first | rfl | simp only [List.length_set]), (Sl.nil _ _ _ _ _ (Nat.zero_le _)), HG⟩

set_option maxHeartbeats 4000000 in
set_option maxRecDepth 10000 in
theorem rdecided_spec {w : World} {d : RecV} {D_o : Nat → Prop} {c_o : Nat} {a_o : Option Addr} (F_o : Sl V.Cod.write w D_o a_o c_o d.ws) (hD_o : ∀ k, D_o k → k < w.heap.size) {ep : Int} {aw : Int} {al : Int} {c : Bool}  :
    Meets Try.prog 72 [.agg #[.int .i64 d.id, .int .i64 d.ep, .int .i64 d.st, .int .i64 d.aw, .int .i64 d.al, .int .i64 d.bw, .int .i64 d.bl, .slice a_o d.ws.length c_o], .int .i64 ep, .agg #[.int .i64 aw, .int .i64 al], .bool c] w fun r w' => ∃ (ra24 : Option Addr) (rc24 : Nat), r = .agg #[.int .i64 ((decR d ep aw al c).id), .int .i64 ((decR d ep aw al c).ep), .int .i64 ((decR d ep aw al c).st), .int .i64 ((decR d ep aw al c).aw), .int .i64 ((decR d ep aw al c).al), .int .i64 ((decR d ep aw al c).bw), .int .i64 ((decR d ep aw al c).bl), .slice ra24 ((decR d ep aw al c).ws).length rc24] ∧ Sl V.Cod.write w' (V.In w.heap.size w'.heap.size) ra24 rc24 ((decR d ep aw al c).ws) ∧ Gr w w' := by
 have HG := V.Fr.refl [] w
 refine V.enter (n := 23) Try.func72 rfl rfl (by decide) rfl ?_
 refine V.seq ?_
 refine V.region ?_
 refine V.box rfl rfl rfl rfl ?_
 rintro k1 w3 s5 s6 G4 Fk2
 have z7 := V.Fr.size G4
 try replace F_o := F_o.gr G4
 replace HG := HG.grow G4
 clear G4
 try simp only [V.cellsL, V.spliceL] at Fk2
 refine V.box rfl rfl rfl rfl ?_
 rintro k8 w10 s12 s13 G11 Fk9
 have z14 := V.Fr.size G11
 try replace F_o := F_o.gr G11
 try replace Fk2 := Fk2.gr G11
 replace HG := HG.grow G11
 clear G11
 try simp only [V.cellsL, V.spliceL] at Fk9
 refine V.alloc zero27 rfl rfl rfl ?_
 rintro k15 w17 s19 s20 G18 Fk16
 have z21 := V.Fr.size G18
 try replace F_o := F_o.gr G18
 try replace Fk2 := Fk2.gr G18
 try replace Fk9 := Fk9.gr G18
 replace HG := HG.grow G18
 clear G18
 try simp only [V.cellsL, V.spliceL] at Fk16
 refine V.nil ?_
 refine V.tN ?_
 refine V.seq ?_
 refine V.seq ?_
 refine V.region ?_
 refine V.run T_ok 1 rfl ?_
 refine V.nil ?_
 refine V.tN ?_
 refine V.condT rfl (fun h1 => ?_) (fun h1 => ?_)
 ·
  try replace h1 := V.dec h1
  try simp only [V.mk0, V.mk1, V.mk2, V.mk3] at h1
  refine V.seq ?_
  refine V.region ?_
  refine V.run T_ok 1 rfl ?_
  refine V.loadO T_ok Fk2 rfl rfl rfl rfl rfl ?_
  refine V.run T_ok 1 rfl ?_
  refine V.loadO T_ok Fk9 rfl rfl rfl rfl rfl ?_
  refine V.run T_ok 1 rfl ?_
  refine V.loadO T_ok Fk2 rfl rfl rfl rfl rfl ?_
  refine V.mkStruct T_ok zero27 rfl rfl rfl rfl rfl ?_
  refine V.storeO Fk16 rfl rfl rfl rfl sz27 rfl rfl rfl rfl ?_
  rintro w22 G23 z25 Fs24
  clear Fk16
  have z26 := V.Fr.size G23
  first | replace F_o := F_o.mb G23 hD_o | clear F_o | skip
  first | replace Fk2 := Fk2.mv1 G23 (by omega) | clear Fk2 | skip
  first | replace Fk9 := Fk9.mv1 G23 (by omega) | clear Fk9 | skip
  replace HG := HG.n1 G23
  clear G23
  have Fk16 := Fs24; clear Fs24
  simp only [V.spliceL, V.cellsL] at Fk16
  refine V.nil ?_
  refine V.tN ?_
  refine V.ret ?_
  refine V.tR ?_
  refine V.done1 rfl (V.resV_cell T_ok Fk16 rfl rfl) ?_
  first
    | rw [show decR d ep aw al c = ⟨d.id, ep, 3, aw, al, d.bw, d.bl, []⟩ by simp only [decR]; grind]
    | rw [show decR d ep aw al c = ⟨d.id, ep, 4, 0, 0, d.bw, d.bl, []⟩ by simp only [decR]; grind]
  exact ⟨none, 0, (by first | rfl | simp only [List.length_set]), (Sl.nil _ _ _ _ _ (Nat.zero_le _)), HG⟩
 ·
  try replace h1 := V.dec h1
  try simp only [V.mk0, V.mk1, V.mk2, V.mk3] at h1
  refine V.skip ?_
  refine V.tN ?_
  refine V.seq ?_
  refine V.region ?_
  refine V.run T_ok 1 rfl ?_
  refine V.loadO T_ok Fk2 rfl rfl rfl rfl rfl ?_
  refine V.run T_ok 2 rfl ?_
  refine V.loadO T_ok Fk2 rfl rfl rfl rfl rfl ?_
  refine V.mkStruct T_ok zero27 rfl rfl rfl rfl rfl ?_
  refine V.storeO Fk16 rfl rfl rfl rfl sz27 rfl rfl rfl rfl ?_
  rintro w27 G28 z30 Fs29
  clear Fk16
  have z31 := V.Fr.size G28
  first | replace F_o := F_o.mb G28 hD_o | clear F_o | skip
  first | replace Fk2 := Fk2.mv1 G28 (by omega) | clear Fk2 | skip
  first | replace Fk9 := Fk9.mv1 G28 (by omega) | clear Fk9 | skip
  replace HG := HG.n1 G28
  clear G28
  have Fk16 := Fs29; clear Fs29
  simp only [V.spliceL, V.cellsL] at Fk16
  refine V.nil ?_
  refine V.tN ?_
  refine V.ret ?_
  refine V.done1 rfl (V.resV_cell T_ok Fk16 rfl rfl) ?_
  first
    | rw [show decR d ep aw al c = ⟨d.id, ep, 3, aw, al, d.bw, d.bl, []⟩ by simp only [decR]; grind]
    | rw [show decR d ep aw al c = ⟨d.id, ep, 4, 0, 0, d.bw, d.bl, []⟩ by simp only [decR]; grind]
  exact ⟨none, 0, (by first | rfl | simp only [List.length_set]), (Sl.nil _ _ _ _ _ (Nat.zero_le _)), HG⟩

set_option maxHeartbeats 4000000 in
set_option maxRecDepth 10000 in
theorem recov_spec {w : World} {d : RecV} {D_o : Nat → Prop} {c_o : Nat} {a_o : Option Addr} (F_o : Sl V.Cod.write w D_o a_o c_o d.ws) (hD_o : ∀ k, D_o k → k < w.heap.size) {ep : Int} {aw : Int} {al : Int} {c : Bool}  :
    Meets Try.prog 69 [.agg #[.int .i64 d.id, .int .i64 d.ep, .int .i64 d.st, .int .i64 d.aw, .int .i64 d.al, .int .i64 d.bw, .int .i64 d.bl, .slice a_o d.ws.length c_o], .int .i64 ep, .agg #[.int .i64 aw, .int .i64 al], .bool c] w fun r w' => ∃ (ra25 : Option Addr) (rc25 : Nat), r = .tuple #[.agg #[.int .i64 ((rRecov d ep aw al c).1.id), .int .i64 ((rRecov d ep aw al c).1.ep), .int .i64 ((rRecov d ep aw al c).1.st), .int .i64 ((rRecov d ep aw al c).1.aw), .int .i64 ((rRecov d ep aw al c).1.al), .int .i64 ((rRecov d ep aw al c).1.bw), .int .i64 ((rRecov d ep aw al c).1.bl), .slice ra25 ((rRecov d ep aw al c).1.ws).length rc25], .int .i64 ((rRecov d ep aw al c).2)] ∧ Sl V.Cod.write w' (fun j => D_o j ∨ V.In w.heap.size w'.heap.size j) ra25 rc25 ((rRecov d ep aw al c).1.ws) ∧ Gr w w' := by
 have HG := V.Fr.refl [] w
 refine V.enter (n := 37) Try.func69 rfl rfl (by decide) rfl ?_
 refine V.seq ?_
 refine V.region ?_
 refine V.box rfl rfl rfl rfl ?_
 rintro k1 w3 s5 s6 G4 Fk2
 have z7 := V.Fr.size G4
 try replace F_o := F_o.gr G4
 replace HG := HG.grow G4
 clear G4
 try simp only [V.cellsL, V.spliceL] at Fk2
 refine V.box rfl rfl rfl rfl ?_
 rintro k8 w10 s12 s13 G11 Fk9
 have z14 := V.Fr.size G11
 try replace F_o := F_o.gr G11
 try replace Fk2 := Fk2.gr G11
 replace HG := HG.grow G11
 clear G11
 try simp only [V.cellsL, V.spliceL] at Fk9
 refine V.alloc zero27 rfl rfl rfl ?_
 rintro k15 w17 s19 s20 G18 Fk16
 have z21 := V.Fr.size G18
 try replace F_o := F_o.gr G18
 try replace Fk2 := Fk2.gr G18
 try replace Fk9 := Fk9.gr G18
 replace HG := HG.grow G18
 clear G18
 try simp only [V.cellsL, V.spliceL] at Fk16
 refine V.run T_ok 1 rfl ?_
 refine V.nil ?_
 refine V.tN ?_
 refine V.seq ?_
 refine V.block ?_
 refine V.seq ?_
 refine V.region ?_
 refine V.loadO T_ok Fk2 rfl rfl rfl rfl rfl ?_
 refine V.call (over_spec (d := d) F_o (fun k hk => by have := hD_o k hk; omega)) rfl rfl rfl ?_
 rintro _ w22 ⟨rfl, G23⟩
 have z24 := V.Fr.size G23
 try replace F_o := F_o.gr G23
 try replace Fk2 := Fk2.gr G23
 try replace Fk9 := Fk9.gr G23
 try replace Fk16 := Fk16.gr G23
 replace HG := HG.grow G23
 clear G23
 refine V.run T_ok 2 rfl ?_
 refine V.nil ?_
 refine V.tN ?_
 refine V.condT rfl (fun h1 => ?_) (fun h1 => ?_)
 ·
  try replace h1 := V.dec h1
  try simp only [V.mk0, V.mk1, V.mk2, V.mk3] at h1
  refine V.seq ?_
  refine V.region ?_
  refine V.loadO T_ok Fk2 rfl rfl rfl rfl rfl ?_
  refine V.storeO Fk16 rfl rfl rfl rfl sz27 rfl rfl rfl rfl ?_
  rintro w25 G26 z28 Fs27
  clear Fk16
  have z29 := V.Fr.size G26
  first | replace F_o := F_o.mb G26 hD_o | clear F_o | skip
  first | replace Fk2 := Fk2.mv1 G26 (by omega) | clear Fk2 | skip
  first | replace Fk9 := Fk9.mv1 G26 (by omega) | clear Fk9 | skip
  replace HG := HG.n1 G26
  clear G26
  have Fk16 := Fs27; clear Fs27
  simp only [V.spliceL, V.cellsL] at Fk16
  refine V.run T_ok 1 rfl ?_
  refine V.nil ?_
  refine V.tN ?_
  refine V.ret ?_
  refine V.bR ?_
  refine V.tR ?_
  refine V.done2 rfl (V.resV_cell T_ok Fk16 rfl rfl) (V.resV_tmp rfl) ?_
  first
    | rw [show rRecov d ep aw al c = (d, 0) by simp only [rRecov]; grind [ovE]]
  exact ⟨a_o, c_o, (by first | rfl | simp only [List.length_set]), F_o.re, HG⟩
 ·
  try replace h1 := V.dec h1
  try simp only [V.mk0, V.mk1, V.mk2, V.mk3] at h1
  refine V.seq ?_
  refine V.region ?_
  refine V.run T_ok 1 rfl ?_
  refine V.loadO T_ok Fk2 rfl rfl rfl rfl rfl ?_
  refine V.run T_ok 2 rfl ?_
  refine V.split (j := 3) (t := 19) rfl rfl (fun g3_3 => ?_) (fun g3_3 => ?_)
  ·
   try replace g3_3 := V.dec g3_3
   try simp only [V.mk0, V.mk1, V.mk2, V.mk3] at g3_3
   refine V.run T_ok 12 rfl ?_
   refine V.nil ?_
   refine V.tN ?_
   refine V.condY rfl rfl ?_
   refine V.seq ?_
   refine V.region ?_
   refine V.loadO T_ok Fk2 rfl rfl rfl rfl rfl ?_
   refine V.storeO Fk16 rfl rfl rfl rfl sz27 rfl rfl rfl rfl ?_
   rintro w30 G31 z33 Fs32
   clear Fk16
   have z34 := V.Fr.size G31
   first | replace F_o := F_o.mb G31 hD_o | clear F_o | skip
   first | replace Fk2 := Fk2.mv1 G31 (by omega) | clear Fk2 | skip
   first | replace Fk9 := Fk9.mv1 G31 (by omega) | clear Fk9 | skip
   replace HG := HG.n1 G31
   clear G31
   have Fk16 := Fs32; clear Fs32
   simp only [V.spliceL, V.cellsL] at Fk16
   refine V.run T_ok 1 rfl ?_
   refine V.nil ?_
   refine V.tN ?_
   refine V.ret ?_
   refine V.bR ?_
   refine V.tR ?_
   refine V.done2 rfl (V.resV_cell T_ok Fk16 rfl rfl) (V.resV_tmp rfl) ?_
   first
     | rw [show rRecov d ep aw al c = (d, 84) by simp only [rRecov]; grind [ovE]]
   exact ⟨a_o, c_o, (by first | rfl | simp only [List.length_set]), F_o.re, HG⟩
  ·
   try replace g3_3 := V.dec g3_3
   try simp only [V.mk0, V.mk1, V.mk2, V.mk3] at g3_3
   refine V.run T_ok 1 rfl ?_
   refine V.yes rfl rfl rfl ?_
   refine V.loadO T_ok Fk2 rfl rfl rfl rfl rfl ?_
   refine V.run T_ok 4 rfl ?_
   refine V.split (j := 9) (t := 25) rfl rfl (fun g3_9 => ?_) (fun g3_9 => ?_)
   ·
    try replace g3_9 := V.dec g3_9
    try simp only [V.mk0, V.mk1, V.mk2, V.mk3] at g3_9
    refine V.run T_ok 6 rfl ?_
    refine V.nil ?_
    refine V.tN ?_
    refine V.condY rfl rfl ?_
    refine V.seq ?_
    refine V.region ?_
    refine V.loadO T_ok Fk2 rfl rfl rfl rfl rfl ?_
    refine V.storeO Fk16 rfl rfl rfl rfl sz27 rfl rfl rfl rfl ?_
    rintro w35 G36 z38 Fs37
    clear Fk16
    have z39 := V.Fr.size G36
    first | replace F_o := F_o.mb G36 hD_o | clear F_o | skip
    first | replace Fk2 := Fk2.mv1 G36 (by omega) | clear Fk2 | skip
    first | replace Fk9 := Fk9.mv1 G36 (by omega) | clear Fk9 | skip
    replace HG := HG.n1 G36
    clear G36
    have Fk16 := Fs37; clear Fs37
    simp only [V.spliceL, V.cellsL] at Fk16
    refine V.run T_ok 1 rfl ?_
    refine V.nil ?_
    refine V.tN ?_
    refine V.ret ?_
    refine V.bR ?_
    refine V.tR ?_
    refine V.done2 rfl (V.resV_cell T_ok Fk16 rfl rfl) (V.resV_tmp rfl) ?_
    first
      | rw [show rRecov d ep aw al c = (d, 84) by simp only [rRecov]; grind [ovE]]
    exact ⟨a_o, c_o, (by first | rfl | simp only [List.length_set]), F_o.re, HG⟩
   ·
    try replace g3_9 := V.dec g3_9
    try simp only [V.mk0, V.mk1, V.mk2, V.mk3] at g3_9
    refine V.run T_ok 1 rfl ?_
    refine V.yes rfl rfl rfl ?_
    refine V.loadO T_ok Fk2 rfl rfl rfl rfl rfl ?_
    refine V.yes rfl rfl rfl ?_
    refine V.loadO T_ok Fk9 rfl rfl rfl rfl rfl ?_
    refine V.yes rfl rfl rfl ?_
    refine V.step rfl rfl (V.neA_run rfl rfl rfl eqG24 (eqS24 _)) ?_
    refine V.run T_ok 2 rfl ?_
    refine V.nil ?_
    refine V.tN ?_
    refine V.condT rfl (fun h3 => ?_) (fun h3 => ?_)
    ·
     try replace h3 := V.dec h3
     try simp only [V.mk0, V.mk1, V.mk2, V.mk3] at h3
     refine V.seq ?_
     refine V.region ?_
     refine V.loadO T_ok Fk2 rfl rfl rfl rfl rfl ?_
     refine V.storeO Fk16 rfl rfl rfl rfl sz27 rfl rfl rfl rfl ?_
     rintro w40 G41 z43 Fs42
     clear Fk16
     have z44 := V.Fr.size G41
     first | replace F_o := F_o.mb G41 hD_o | clear F_o | skip
     first | replace Fk2 := Fk2.mv1 G41 (by omega) | clear Fk2 | skip
     first | replace Fk9 := Fk9.mv1 G41 (by omega) | clear Fk9 | skip
     replace HG := HG.n1 G41
     clear G41
     have Fk16 := Fs42; clear Fs42
     simp only [V.spliceL, V.cellsL] at Fk16
     refine V.run T_ok 1 rfl ?_
     refine V.nil ?_
     refine V.tN ?_
     refine V.ret ?_
     refine V.bR ?_
     refine V.tR ?_
     refine V.done2 rfl (V.resV_cell T_ok Fk16 rfl rfl) (V.resV_tmp rfl) ?_
     first
       | rw [show rRecov d ep aw al c = (d, 84) by simp only [rRecov]; grind [ovE]]
     exact ⟨a_o, c_o, (by first | rfl | simp only [List.length_set]), F_o.re, HG⟩
    ·
     try replace h3 := V.dec h3
     try simp only [V.mk0, V.mk1, V.mk2, V.mk3] at h3
     refine V.skip ?_
     refine V.bN ?_
     refine V.tN ?_
     refine V.seq ?_
     refine V.region ?_
     refine V.loadO T_ok Fk2 rfl rfl rfl rfl rfl ?_
     refine V.run T_ok 1 rfl ?_
     refine V.loadO T_ok Fk9 rfl rfl rfl rfl rfl ?_
     refine V.run T_ok 1 rfl ?_
     refine V.call (decided_spec (ep := ep) (aw := aw) (al := al) (c := c) (d := d) F_o (fun k hk => by have := hD_o k hk; omega)) rfl rfl rfl ?_
     rintro _ w48 ⟨a45, c46, rfl, F47, G49⟩
     have z50 := V.Fr.size G49
     try replace F_o := F_o.gr G49
     try replace Fk2 := Fk2.gr G49
     try replace Fk9 := Fk9.gr G49
     try replace Fk16 := Fk16.gr G49
     replace HG := HG.grow G49
     clear G49
     refine V.storeO Fk16 rfl rfl rfl rfl sz27 rfl rfl rfl rfl ?_
     rintro w51 G52 z54 Fs53
     clear Fk16
     have z55 := V.Fr.size G52
     first | replace F_o := F_o.mb G52 hD_o | clear F_o | skip
     first | replace Fk2 := Fk2.mv1 G52 (by omega) | clear Fk2 | skip
     first | replace Fk9 := Fk9.mv1 G52 (by omega) | clear Fk9 | skip
     first | replace F47 := F47.ma G52 | clear F47 | skip
     replace HG := HG.n1 G52
     clear G52
     have Fk16 := Fs53; clear Fs53
     simp only [V.spliceL, V.cellsL] at Fk16
     refine V.run T_ok 1 rfl ?_
     refine V.nil ?_
     refine V.tN ?_
     refine V.ret ?_
     refine V.done2 rfl (V.resV_cell T_ok Fk16 rfl rfl) (V.resV_tmp rfl) ?_
     first
       | rw [show rRecov d ep aw al c = (decR d ep aw al c, 0) by simp only [rRecov]; grind [ovE]]
     exact ⟨a45, c46, (by first | rfl | simp only [List.length_set]), F47.re, HG⟩

set_option maxHeartbeats 4000000 in
set_option maxRecDepth 10000 in
theorem finish_spec {w : World} {d : RecV} {D_o : Nat → Prop} {c_o : Nat} {a_o : Option Addr} (F_o : Sl V.Cod.write w D_o a_o c_o d.ws) (hD_o : ∀ k, D_o k → k < w.heap.size) {ep : Int} {aw : Int} {al : Int} {c : Bool} {s : Bool} (hl : d.ws.length ≤ 5864062014805) :
    Meets Try.prog 32 [.agg #[.int .i64 d.id, .int .i64 d.ep, .int .i64 d.st, .int .i64 d.aw, .int .i64 d.al, .int .i64 d.bw, .int .i64 d.bl, .slice a_o d.ws.length c_o], .int .i64 ep, .agg #[.int .i64 aw, .int .i64 al], .bool c, .bool s] w fun r w' => ∃ (ra26 : Option Addr) (rc26 : Nat), r = .tuple #[.agg #[.int .i64 ((rFinish d ep aw al c s).1.id), .int .i64 ((rFinish d ep aw al c s).1.ep), .int .i64 ((rFinish d ep aw al c s).1.st), .int .i64 ((rFinish d ep aw al c s).1.aw), .int .i64 ((rFinish d ep aw al c s).1.al), .int .i64 ((rFinish d ep aw al c s).1.bw), .int .i64 ((rFinish d ep aw al c s).1.bl), .slice ra26 ((rFinish d ep aw al c s).1.ws).length rc26], .int .i64 ((rFinish d ep aw al c s).2)] ∧ Sl V.Cod.write w' (V.In w.heap.size w'.heap.size) ra26 rc26 ((rFinish d ep aw al c s).1.ws) ∧ Gr w w' := by
 have HG := V.Fr.refl [] w
 refine V.enter (n := 86) Try.func32 rfl rfl (by decide) rfl ?_
 refine V.seq ?_
 refine V.region ?_
 refine V.box rfl rfl rfl rfl ?_
 rintro k1 w3 s5 s6 G4 Fk2
 have z7 := V.Fr.size G4
 try replace F_o := F_o.gr G4
 replace HG := HG.grow G4
 clear G4
 try simp only [V.cellsL, V.spliceL] at Fk2
 refine V.box rfl rfl rfl rfl ?_
 rintro k8 w10 s12 s13 G11 Fk9
 have z14 := V.Fr.size G11
 try replace F_o := F_o.gr G11
 try replace Fk2 := Fk2.gr G11
 replace HG := HG.grow G11
 clear G11
 try simp only [V.cellsL, V.spliceL] at Fk9
 refine V.alloc zero27 rfl rfl rfl ?_
 rintro k15 w17 s19 s20 G18 Fk16
 have z21 := V.Fr.size G18
 try replace F_o := F_o.gr G18
 try replace Fk2 := Fk2.gr G18
 try replace Fk9 := Fk9.gr G18
 replace HG := HG.grow G18
 clear G18
 try simp only [V.cellsL, V.spliceL] at Fk16
 refine V.run T_ok 1 rfl ?_
 refine V.nil ?_
 refine V.tN ?_
 refine V.seq ?_
 refine V.region ?_
 refine V.loadO T_ok Fk2 rfl rfl rfl rfl rfl ?_
 refine V.call (copied_spec (d := d) F_o (fun k hk => by have := hD_o k hk; omega) (by first | assumption | omega | decide)) rfl rfl rfl ?_
 rintro _ w25 ⟨a22, c23, rfl, F24, G26⟩
 have z27 := V.Fr.size G26
 try replace F_o := F_o.gr G26
 try replace Fk2 := Fk2.gr G26
 try replace Fk9 := Fk9.gr G26
 try replace Fk16 := Fk16.gr G26
 replace HG := HG.grow G26
 clear G26
 refine V.storeO Fk2 rfl rfl rfl rfl sz27 rfl rfl rfl rfl ?_
 rintro w28 G29 z31 Fs30
 clear Fk2
 have z32 := V.Fr.size G29
 first | replace F_o := F_o.mb G29 hD_o | clear F_o | skip
 first | replace Fk9 := Fk9.mv1 G29 (by omega) | clear Fk9 | skip
 first | replace Fk16 := Fk16.mv1 G29 (by omega) | clear Fk16 | skip
 first | replace F24 := F24.ma G29 | clear F24 | skip
 replace HG := HG.n1 G29
 clear G29
 have Fk2 := Fs30; clear Fs30
 simp only [V.spliceL, V.cellsL] at Fk2
 refine V.nil ?_
 refine V.tN ?_
 refine V.seq ?_
 refine V.seq ?_
 refine V.region ?_
 refine V.run T_ok 1 rfl ?_
 refine V.call (number_ok (n := ep)) rfl rfl rfl ?_
 rintro _ w28_ ⟨rfl, rfl⟩
 refine V.run T_ok 2 rfl ?_
 refine V.split (j := 3) (t := 18) rfl rfl (fun g2_3 => ?_) (fun g2_3 => ?_)
 ·
  try replace g2_3 := V.dec g2_3
  try simp only [V.mk0, V.mk1, V.mk2, V.mk3] at g2_3
  refine V.run T_ok 4 rfl ?_
  refine V.nil ?_
  refine V.tN ?_
  refine V.condY rfl rfl ?_
  refine V.seq ?_
  refine V.region ?_
  refine V.loadO T_ok Fk2 rfl rfl rfl rfl rfl ?_
  refine V.storeO Fk16 rfl rfl rfl rfl sz27 rfl rfl rfl rfl ?_
  rintro w34 G35 z37 Fs36
  clear Fk16
  have z38 := V.Fr.size G35
  first | replace F_o := F_o.mb G35 hD_o | clear F_o | skip
  first | replace Fk9 := Fk9.mv1 G35 (by omega) | clear Fk9 | skip
  first | replace F24 := F24.ma G35 | clear F24 | skip
  first | replace Fk2 := Fk2.mv1 G35 (by omega) | clear Fk2 | skip
  replace HG := HG.n1 G35
  clear G35
  have Fk16 := Fs36; clear Fs36
  simp only [V.spliceL, V.cellsL] at Fk16
  refine V.run T_ok 1 rfl ?_
  refine V.nil ?_
  refine V.tN ?_
  refine V.ret ?_
  refine V.tR ?_
  refine V.done2 rfl (V.resV_cell T_ok Fk16 rfl rfl) (V.resV_tmp rfl) ?_
  first
    | rw [show rFinish d ep aw al c s = (d, 1) by simp only [rFinish, stR]; grind [ovE, rRecov]]
  exact ⟨a22, c23, (by first | rfl | simp only [List.length_set]), F24.re, HG⟩
 ·
  try replace g2_3 := V.dec g2_3
  try simp only [V.mk0, V.mk1, V.mk2, V.mk3] at g2_3
  refine V.yes rfl rfl rfl ?_
  refine V.loadO T_ok Fk9 rfl rfl rfl rfl rfl ?_
  refine V.yes rfl rfl rfl ?_
  refine V.call (right_spec (a := aw) (b := al)) rfl rfl rfl ?_
  rintro _ w39 ⟨rfl, G40⟩
  have z41 := V.Fr.size G40
  try replace F_o := F_o.gr G40
  try replace Fk9 := Fk9.gr G40
  try replace Fk16 := Fk16.gr G40
  try replace F24 := F24.gr G40
  try replace Fk2 := Fk2.gr G40
  replace HG := HG.grow G40
  clear G40
  refine V.run T_ok 2 rfl ?_
  refine V.nil ?_
  refine V.tN ?_
  refine V.condT rfl (fun h2 => ?_) (fun h2 => ?_)
  ·
   try replace h2 := V.dec h2
   try simp only [V.mk0, V.mk1, V.mk2, V.mk3] at h2
   refine V.seq ?_
   refine V.region ?_
   refine V.loadO T_ok Fk2 rfl rfl rfl rfl rfl ?_
   refine V.storeO Fk16 rfl rfl rfl rfl sz27 rfl rfl rfl rfl ?_
   rintro w42 G43 z45 Fs44
   clear Fk16
   have z46 := V.Fr.size G43
   first | replace F_o := F_o.mb G43 hD_o | clear F_o | skip
   first | replace Fk9 := Fk9.mv1 G43 (by omega) | clear Fk9 | skip
   first | replace F24 := F24.ma G43 | clear F24 | skip
   first | replace Fk2 := Fk2.mv1 G43 (by omega) | clear Fk2 | skip
   replace HG := HG.n1 G43
   clear G43
   have Fk16 := Fs44; clear Fs44
   simp only [V.spliceL, V.cellsL] at Fk16
   refine V.run T_ok 1 rfl ?_
   refine V.nil ?_
   refine V.tN ?_
   refine V.ret ?_
   refine V.tR ?_
   refine V.done2 rfl (V.resV_cell T_ok Fk16 rfl rfl) (V.resV_tmp rfl) ?_
   first
     | rw [show rFinish d ep aw al c s = (d, 1) by simp only [rFinish, stR]; grind [ovE, rRecov]]
   exact ⟨a22, c23, (by first | rfl | simp only [List.length_set]), F24.re, HG⟩
  ·
   try replace h2 := V.dec h2
   try simp only [V.mk0, V.mk1, V.mk2, V.mk3] at h2
   refine V.skip ?_
   refine V.tN ?_
   refine V.seq ?_
   refine V.seq ?_
   refine V.region ?_
   refine V.run T_ok 1 rfl ?_
   refine V.nil ?_
   refine V.tN ?_
   refine V.condT rfl (fun h4 => ?_) (fun h4 => ?_)
   ·
    try replace h4 := V.dec h4
    try simp only [V.mk0, V.mk1, V.mk2, V.mk3] at h4
    refine V.seq ?_
    refine V.region ?_
    refine V.loadO T_ok Fk2 rfl rfl rfl rfl rfl ?_
    refine V.run T_ok 1 rfl ?_
    refine V.loadO T_ok Fk9 rfl rfl rfl rfl rfl ?_
    refine V.run T_ok 1 rfl ?_
    refine V.call (recov_spec (ep := ep) (aw := aw) (al := al) (c := c) (d := d) F24 (fun k hk => by have := hk.2; omega)) rfl rfl rfl ?_
    rintro _ w50 ⟨a47, c48, rfl, F49, G51⟩
    have z52 := V.Fr.size G51
    try replace F_o := F_o.gr G51
    try replace Fk9 := Fk9.gr G51
    try replace Fk16 := Fk16.gr G51
    try replace F24 := F24.gr G51
    try replace Fk2 := Fk2.gr G51
    replace HG := HG.grow G51
    clear G51
    refine V.run T_ok 2 rfl ?_
    refine V.storeO Fk16 rfl rfl rfl rfl sz27 rfl rfl rfl rfl ?_
    rintro w53 G54 z56 Fs55
    clear Fk16
    have z57 := V.Fr.size G54
    first | replace F_o := F_o.mb G54 hD_o | clear F_o | skip
    first | replace Fk9 := Fk9.mv1 G54 (by omega) | clear Fk9 | skip
    first | replace F24 := F24.ma G54 | clear F24 | skip
    first | replace Fk2 := Fk2.mv1 G54 (by omega) | clear Fk2 | skip
    first | replace F49 := F49.ma G54 | clear F49 | skip
    replace HG := HG.n1 G54
    clear G54
    have Fk16 := Fs55; clear Fs55
    simp only [V.spliceL, V.cellsL] at Fk16
    refine V.run T_ok 1 rfl ?_
    refine V.nil ?_
    refine V.tN ?_
    refine V.ret ?_
    refine V.tR ?_
    refine V.done2 rfl (V.resV_cell T_ok Fk16 rfl rfl) (V.resV_tmp rfl) ?_
    first
      | rw [show rFinish d ep aw al c s = rRecov d ep aw al c by simp only [rFinish, stR]; grind [ovE, rRecov]]
    exact ⟨a47, c48, (by first | rfl | simp only [List.length_set]), F49.re, HG⟩
   ·
    try replace h4 := V.dec h4
    try simp only [V.mk0, V.mk1, V.mk2, V.mk3] at h4
    refine V.skip ?_
    refine V.tN ?_
    refine V.seq ?_
    refine V.seq ?_
    refine V.region ?_
    refine V.loadO T_ok Fk2 rfl rfl rfl rfl rfl ?_
    refine V.call (over_spec (d := d) F24 (fun k hk => by have := hk.2; omega)) rfl rfl rfl ?_
    rintro _ w58 ⟨rfl, G59⟩
    have z60 := V.Fr.size G59
    try replace F_o := F_o.gr G59
    try replace Fk9 := Fk9.gr G59
    try replace Fk16 := Fk16.gr G59
    try replace F24 := F24.gr G59
    try replace Fk2 := Fk2.gr G59
    replace HG := HG.grow G59
    clear G59
    refine V.run T_ok 1 rfl ?_
    refine V.nil ?_
    refine V.tN ?_
    refine V.block ?_
    refine V.seq ?_
    refine V.region ?_
    refine V.run T_ok 3 rfl ?_
    refine V.andG T_ok 1 2 37 rfl rfl rfl rfl rfl rfl rfl rfl ?_
    refine V.run T_ok 1 rfl ?_
    refine V.split (j := 5) (t := 40) rfl rfl (fun g7_5 => ?_) (fun g7_5 => ?_)
    ·
     try replace g7_5 := V.dec g7_5
     try simp only [V.mk0, V.mk1, V.mk2, V.mk3] at g7_5
     refine V.run T_ok 8 rfl ?_
     refine V.nil ?_
     refine V.tN ?_
     refine V.condY rfl rfl ?_
     refine V.seq ?_
     refine V.region ?_
     refine V.loadO T_ok Fk2 rfl rfl rfl rfl rfl ?_
     refine V.storeO Fk16 rfl rfl rfl rfl sz27 rfl rfl rfl rfl ?_
     rintro w61 G62 z64 Fs63
     clear Fk16
     have z65 := V.Fr.size G62
     first | replace F_o := F_o.mb G62 hD_o | clear F_o | skip
     first | replace Fk9 := Fk9.mv1 G62 (by omega) | clear Fk9 | skip
     first | replace F24 := F24.ma G62 | clear F24 | skip
     first | replace Fk2 := Fk2.mv1 G62 (by omega) | clear Fk2 | skip
     replace HG := HG.n1 G62
     clear G62
     have Fk16 := Fs63; clear Fs63
     simp only [V.spliceL, V.cellsL] at Fk16
     refine V.run T_ok 1 rfl ?_
     refine V.nil ?_
     refine V.tN ?_
     refine V.ret ?_
     refine V.bR ?_
     refine V.tR ?_
     refine V.done2 rfl (V.resV_cell T_ok Fk16 rfl rfl) (V.resV_tmp rfl) ?_
     first
       | rw [show rFinish d ep aw al c s = (d, 0) by simp only [rFinish, stR]; grind [ovE, rRecov]]
     exact ⟨a22, c23, (by first | rfl | simp only [List.length_set]), F24.re, HG⟩
    ·
     try replace g7_5 := V.dec g7_5
     try simp only [V.mk0, V.mk1, V.mk2, V.mk3] at g7_5
     refine V.run T_ok 3 rfl ?_
     refine V.split (j := 8) (t := 43) rfl rfl (fun g7_8 => ?_) (fun g7_8 => ?_)
     ·
      try replace g7_8 := V.dec g7_8
      try simp only [V.mk0, V.mk1, V.mk2, V.mk3] at g7_8
      refine V.run T_ok 5 rfl ?_
      refine V.nil ?_
      refine V.tN ?_
      refine V.condT rfl (fun h7 => ?_) (fun h7 => ?_)
      ·
       try replace h7 := V.dec h7
       try simp only [V.mk0, V.mk1, V.mk2, V.mk3] at h7
       refine V.seq ?_
       refine V.region ?_
       refine V.loadO T_ok Fk2 rfl rfl rfl rfl rfl ?_
       refine V.storeO Fk16 rfl rfl rfl rfl sz27 rfl rfl rfl rfl ?_
       rintro w66 G67 z69 Fs68
       clear Fk16
       have z70 := V.Fr.size G67
       first | replace F_o := F_o.mb G67 hD_o | clear F_o | skip
       first | replace Fk9 := Fk9.mv1 G67 (by omega) | clear Fk9 | skip
       first | replace F24 := F24.ma G67 | clear F24 | skip
       first | replace Fk2 := Fk2.mv1 G67 (by omega) | clear Fk2 | skip
       replace HG := HG.n1 G67
       clear G67
       have Fk16 := Fs68; clear Fs68
       simp only [V.spliceL, V.cellsL] at Fk16
       refine V.run T_ok 1 rfl ?_
       refine V.nil ?_
       refine V.tN ?_
       refine V.ret ?_
       refine V.bR ?_
       refine V.tR ?_
       refine V.done2 rfl (V.resV_cell T_ok Fk16 rfl rfl) (V.resV_tmp rfl) ?_
       first
         | rw [show rFinish d ep aw al c s = (d, 0) by simp only [rFinish, stR]; grind [ovE, rRecov]]
       exact ⟨a22, c23, (by first | rfl | simp only [List.length_set]), F24.re, HG⟩
      ·
       try replace h7 := V.dec h7
       try simp only [V.mk0, V.mk1, V.mk2, V.mk3] at h7
       refine V.seq ?_
       refine V.region ?_
       refine V.run T_ok 3 rfl ?_
       refine V.nil ?_
       refine V.tN ?_
       refine V.condT rfl (fun h9 => ?_) (fun h9 => ?_)
       ·
        try replace h9 := V.dec h9
        try simp only [V.mk0, V.mk1, V.mk2, V.mk3] at h9
        refine V.seq ?_
        refine V.region ?_
        refine V.loadO T_ok Fk2 rfl rfl rfl rfl rfl ?_
        refine V.run T_ok 1 rfl ?_
        refine V.storeO Fk16 rfl rfl rfl rfl sz27 rfl rfl rfl rfl ?_
        rintro w71 G72 z74 Fs73
        clear Fk16
        have z75 := V.Fr.size G72
        first | replace F_o := F_o.mb G72 hD_o | clear F_o | skip
        first | replace Fk9 := Fk9.mv1 G72 (by omega) | clear Fk9 | skip
        first | replace F24 := F24.ma G72 | clear F24 | skip
        first | replace Fk2 := Fk2.mv1 G72 (by omega) | clear Fk2 | skip
        replace HG := HG.n1 G72
        clear G72
        have Fk16 := Fs73; clear Fs73
        simp only [V.spliceL, V.cellsL] at Fk16
        refine V.run T_ok 1 rfl ?_
        refine V.nil ?_
        refine V.tN ?_
        refine V.ret ?_
        refine V.bR ?_
        refine V.tR ?_
        refine V.done2 rfl (V.resV_cell T_ok Fk16 rfl rfl) (V.resV_tmp rfl) ?_
        first
          | rw [show rFinish d ep aw al c s = (d, ovE d.st) by simp only [rFinish, stR]; grind [ovE, rRecov]]
        exact ⟨a22, c23, (by first | rfl | simp only [List.length_set]), F24.re, HG⟩
       ·
        try replace h9 := V.dec h9
        try simp only [V.mk0, V.mk1, V.mk2, V.mk3] at h9
        refine V.seq ?_
        refine V.region ?_
        refine V.run T_ok 1 rfl ?_
        refine V.loadO T_ok Fk2 rfl rfl rfl rfl rfl ?_
        refine V.run T_ok 3 rfl ?_
        refine V.nil ?_
        refine V.tN ?_
        refine V.condT rfl (fun h11 => ?_) (fun h11 => ?_)
        ·
         try replace h11 := V.dec h11
         try simp only [V.mk0, V.mk1, V.mk2, V.mk3] at h11
         refine V.seq ?_
         refine V.region ?_
         refine V.loadO T_ok Fk2 rfl rfl rfl rfl rfl ?_
         refine V.storeO Fk16 rfl rfl rfl rfl sz27 rfl rfl rfl rfl ?_
         rintro w76 G77 z79 Fs78
         clear Fk16
         have z80 := V.Fr.size G77
         first | replace F_o := F_o.mb G77 hD_o | clear F_o | skip
         first | replace Fk9 := Fk9.mv1 G77 (by omega) | clear Fk9 | skip
         first | replace F24 := F24.ma G77 | clear F24 | skip
         first | replace Fk2 := Fk2.mv1 G77 (by omega) | clear Fk2 | skip
         replace HG := HG.n1 G77
         clear G77
         have Fk16 := Fs78; clear Fs78
         simp only [V.spliceL, V.cellsL] at Fk16
         refine V.run T_ok 1 rfl ?_
         refine V.nil ?_
         refine V.tN ?_
         refine V.ret ?_
         refine V.bR ?_
         refine V.tR ?_
         refine V.done2 rfl (V.resV_cell T_ok Fk16 rfl rfl) (V.resV_tmp rfl) ?_
         first
           | rw [show rFinish d ep aw al c s = (d, 84) by simp only [rFinish, stR]; grind [ovE, rRecov]]
         exact ⟨a22, c23, (by first | rfl | simp only [List.length_set]), F24.re, HG⟩
        ·
         try replace h11 := V.dec h11
         try simp only [V.mk0, V.mk1, V.mk2, V.mk3] at h11
         refine V.seq ?_
         refine V.region ?_
         refine V.run T_ok 1 rfl ?_
         refine V.loadO T_ok Fk2 rfl rfl rfl rfl rfl ?_
         refine V.run T_ok 2 rfl ?_
         refine V.split (j := 3) (t := 64) rfl rfl (fun g13_3 => ?_) (fun g13_3 => ?_)
         ·
          try replace g13_3 := V.dec g13_3
          try simp only [V.mk0, V.mk1, V.mk2, V.mk3] at g13_3
          refine V.run T_ok 3 rfl ?_
          refine V.split (j := 6) (t := 67) rfl rfl (fun g13_6 => ?_) (fun g13_6 => ?_)
          ·
           try replace g13_6 := V.dec g13_6
           try simp only [V.mk0, V.mk1, V.mk2, V.mk3] at g13_6
           refine V.run T_ok 13 rfl ?_
           refine V.nil ?_
           refine V.tN ?_
           refine V.condY rfl rfl ?_
           refine V.seq ?_
           refine V.region ?_
           refine V.loadO T_ok Fk2 rfl rfl rfl rfl rfl ?_
           refine V.storeO Fk16 rfl rfl rfl rfl sz27 rfl rfl rfl rfl ?_
           rintro w81 G82 z84 Fs83
           clear Fk16
           have z85 := V.Fr.size G82
           first | replace F_o := F_o.mb G82 hD_o | clear F_o | skip
           first | replace Fk9 := Fk9.mv1 G82 (by omega) | clear Fk9 | skip
           first | replace F24 := F24.ma G82 | clear F24 | skip
           first | replace Fk2 := Fk2.mv1 G82 (by omega) | clear Fk2 | skip
           replace HG := HG.n1 G82
           clear G82
           have Fk16 := Fs83; clear Fs83
           simp only [V.spliceL, V.cellsL] at Fk16
           refine V.run T_ok 1 rfl ?_
           refine V.nil ?_
           refine V.tN ?_
           refine V.ret ?_
           refine V.bR ?_
           refine V.tR ?_
           refine V.done2 rfl (V.resV_cell T_ok Fk16 rfl rfl) (V.resV_tmp rfl) ?_
           first
             | rw [show rFinish d ep aw al c s = (d, 123) by simp only [rFinish, stR]; grind [ovE, rRecov]]
           exact ⟨a22, c23, (by first | rfl | simp only [List.length_set]), F24.re, HG⟩
          ·
           try replace g13_6 := V.dec g13_6
           try simp only [V.mk0, V.mk1, V.mk2, V.mk3] at g13_6
           refine V.run T_ok 1 rfl ?_
           refine V.yes rfl rfl rfl ?_
           refine V.loadO T_ok Fk2 rfl rfl rfl rfl rfl ?_
           refine V.run T_ok 4 rfl ?_
           refine V.split (j := 12) (t := 73) rfl rfl (fun g13_12 => ?_) (fun g13_12 => ?_)
           ·
            try replace g13_12 := V.dec g13_12
            try simp only [V.mk0, V.mk1, V.mk2, V.mk3] at g13_12
            refine V.run T_ok 7 rfl ?_
            refine V.nil ?_
            refine V.tN ?_
            refine V.condY rfl rfl ?_
            refine V.seq ?_
            refine V.region ?_
            refine V.loadO T_ok Fk2 rfl rfl rfl rfl rfl ?_
            refine V.storeO Fk16 rfl rfl rfl rfl sz27 rfl rfl rfl rfl ?_
            rintro w86 G87 z89 Fs88
            clear Fk16
            have z90 := V.Fr.size G87
            first | replace F_o := F_o.mb G87 hD_o | clear F_o | skip
            first | replace Fk9 := Fk9.mv1 G87 (by omega) | clear Fk9 | skip
            first | replace F24 := F24.ma G87 | clear F24 | skip
            first | replace Fk2 := Fk2.mv1 G87 (by omega) | clear Fk2 | skip
            replace HG := HG.n1 G87
            clear G87
            have Fk16 := Fs88; clear Fs88
            simp only [V.spliceL, V.cellsL] at Fk16
            refine V.run T_ok 1 rfl ?_
            refine V.nil ?_
            refine V.tN ?_
            refine V.ret ?_
            refine V.bR ?_
            refine V.tR ?_
            refine V.done2 rfl (V.resV_cell T_ok Fk16 rfl rfl) (V.resV_tmp rfl) ?_
            first
              | rw [show rFinish d ep aw al c s = (d, 123) by simp only [rFinish, stR]; grind [ovE, rRecov]]
            exact ⟨a22, c23, (by first | rfl | simp only [List.length_set]), F24.re, HG⟩
           ·
            try replace g13_12 := V.dec g13_12
            try simp only [V.mk0, V.mk1, V.mk2, V.mk3] at g13_12
            refine V.run T_ok 1 rfl ?_
            refine V.yes rfl rfl rfl ?_
            refine V.loadO T_ok Fk2 rfl rfl rfl rfl rfl ?_
            refine V.yes rfl rfl rfl ?_
            refine V.loadO T_ok Fk9 rfl rfl rfl rfl rfl ?_
            refine V.yes rfl rfl rfl ?_
            refine V.step rfl rfl (V.neA_run rfl rfl rfl eqG24 (eqS24 _)) ?_
            refine V.run T_ok 3 rfl ?_
            refine V.nil ?_
            refine V.tN ?_
            refine V.condT rfl (fun h13 => ?_) (fun h13 => ?_)
            ·
             try replace h13 := V.dec h13
             try simp only [V.mk0, V.mk1, V.mk2, V.mk3] at h13
             refine V.seq ?_
             refine V.region ?_
             refine V.loadO T_ok Fk2 rfl rfl rfl rfl rfl ?_
             refine V.storeO Fk16 rfl rfl rfl rfl sz27 rfl rfl rfl rfl ?_
             rintro w91 G92 z94 Fs93
             clear Fk16
             have z95 := V.Fr.size G92
             first | replace F_o := F_o.mb G92 hD_o | clear F_o | skip
             first | replace Fk9 := Fk9.mv1 G92 (by omega) | clear Fk9 | skip
             first | replace F24 := F24.ma G92 | clear F24 | skip
             first | replace Fk2 := Fk2.mv1 G92 (by omega) | clear Fk2 | skip
             replace HG := HG.n1 G92
             clear G92
             have Fk16 := Fs93; clear Fs93
             simp only [V.spliceL, V.cellsL] at Fk16
             refine V.run T_ok 1 rfl ?_
             refine V.nil ?_
             refine V.tN ?_
             refine V.ret ?_
             refine V.bR ?_
             refine V.tR ?_
             refine V.done2 rfl (V.resV_cell T_ok Fk16 rfl rfl) (V.resV_tmp rfl) ?_
             first
               | rw [show rFinish d ep aw al c s = (d, 123) by simp only [rFinish, stR]; grind [ovE, rRecov]]
             exact ⟨a22, c23, (by first | rfl | simp only [List.length_set]), F24.re, HG⟩
            ·
             try replace h13 := V.dec h13
             try simp only [V.mk0, V.mk1, V.mk2, V.mk3] at h13
             refine V.skip ?_
             refine V.bN ?_
             refine V.tN ?_
             refine V.seq ?_
             refine V.region ?_
             refine V.loadO T_ok Fk2 rfl rfl rfl rfl rfl ?_
             refine V.run T_ok 1 rfl ?_
             refine V.loadO T_ok Fk9 rfl rfl rfl rfl rfl ?_
             refine V.run T_ok 1 rfl ?_
             refine V.call (decided_spec (ep := ep) (aw := aw) (al := al) (c := c) (d := d) F24 (fun k hk => by have := hk.2; omega)) rfl rfl rfl ?_
             rintro _ w99 ⟨a96, c97, rfl, F98, G100⟩
             have z101 := V.Fr.size G100
             try replace F_o := F_o.gr G100
             try replace Fk9 := Fk9.gr G100
             try replace Fk16 := Fk16.gr G100
             try replace F24 := F24.gr G100
             try replace Fk2 := Fk2.gr G100
             replace HG := HG.grow G100
             clear G100
             refine V.storeO Fk16 rfl rfl rfl rfl sz27 rfl rfl rfl rfl ?_
             rintro w102 G103 z105 Fs104
             clear Fk16
             have z106 := V.Fr.size G103
             first | replace F_o := F_o.mb G103 hD_o | clear F_o | skip
             first | replace Fk9 := Fk9.mv1 G103 (by omega) | clear Fk9 | skip
             first | replace F24 := F24.ma G103 | clear F24 | skip
             first | replace Fk2 := Fk2.mv1 G103 (by omega) | clear Fk2 | skip
             first | replace F98 := F98.ma G103 | clear F98 | skip
             replace HG := HG.n1 G103
             clear G103
             have Fk16 := Fs104; clear Fs104
             simp only [V.spliceL, V.cellsL] at Fk16
             refine V.run T_ok 1 rfl ?_
             refine V.nil ?_
             refine V.tN ?_
             refine V.ret ?_
             refine V.done2 rfl (V.resV_cell T_ok Fk16 rfl rfl) (V.resV_tmp rfl) ?_
             first
               | rw [show rFinish d ep aw al c s = (decR d ep aw al c, 0) by simp only [rFinish, stR]; grind [ovE, rRecov]]
             exact ⟨a96, c97, (by first | rfl | simp only [List.length_set]), F98.re, HG⟩
         ·
          try replace g13_3 := V.dec g13_3
          try simp only [V.mk0, V.mk1, V.mk2, V.mk3] at g13_3
          refine V.run T_ok 16 rfl ?_
          refine V.nil ?_
          refine V.tN ?_
          refine V.condN rfl rfl ?_
          refine V.skip ?_
          refine V.bN ?_
          refine V.tN ?_
          refine V.seq ?_
          refine V.region ?_
          refine V.loadO T_ok Fk2 rfl rfl rfl rfl rfl ?_
          refine V.run T_ok 1 rfl ?_
          refine V.loadO T_ok Fk9 rfl rfl rfl rfl rfl ?_
          refine V.run T_ok 1 rfl ?_
          refine V.call (decided_spec (ep := ep) (aw := aw) (al := al) (c := c) (d := d) F24 (fun k hk => by have := hk.2; omega)) rfl rfl rfl ?_
          rintro _ w110 ⟨a107, c108, rfl, F109, G111⟩
          have z112 := V.Fr.size G111
          try replace F_o := F_o.gr G111
          try replace Fk9 := Fk9.gr G111
          try replace Fk16 := Fk16.gr G111
          try replace F24 := F24.gr G111
          try replace Fk2 := Fk2.gr G111
          replace HG := HG.grow G111
          clear G111
          refine V.storeO Fk16 rfl rfl rfl rfl sz27 rfl rfl rfl rfl ?_
          rintro w113 G114 z116 Fs115
          clear Fk16
          have z117 := V.Fr.size G114
          first | replace F_o := F_o.mb G114 hD_o | clear F_o | skip
          first | replace Fk9 := Fk9.mv1 G114 (by omega) | clear Fk9 | skip
          first | replace F24 := F24.ma G114 | clear F24 | skip
          first | replace Fk2 := Fk2.mv1 G114 (by omega) | clear Fk2 | skip
          first | replace F109 := F109.ma G114 | clear F109 | skip
          replace HG := HG.n1 G114
          clear G114
          have Fk16 := Fs115; clear Fs115
          simp only [V.spliceL, V.cellsL] at Fk16
          refine V.run T_ok 1 rfl ?_
          refine V.nil ?_
          refine V.tN ?_
          refine V.ret ?_
          refine V.done2 rfl (V.resV_cell T_ok Fk16 rfl rfl) (V.resV_tmp rfl) ?_
          first
            | rw [show rFinish d ep aw al c s = (decR d ep aw al c, 0) by simp only [rFinish, stR]; grind [ovE, rRecov]]
          exact ⟨a107, c108, (by first | rfl | simp only [List.length_set]), F109.re, HG⟩
     ·
      try replace g7_8 := V.dec g7_8
      try simp only [V.mk0, V.mk1, V.mk2, V.mk3] at g7_8
      refine V.run T_ok 5 rfl ?_
      refine V.nil ?_
      refine V.tN ?_
      refine V.condN rfl rfl ?_
      refine V.seq ?_
      refine V.region ?_
      refine V.run T_ok 3 rfl ?_
      refine V.nil ?_
      refine V.tN ?_
      refine V.condT rfl (fun h9 => ?_) (fun h9 => ?_)
      ·
       try replace h9 := V.dec h9
       try simp only [V.mk0, V.mk1, V.mk2, V.mk3] at h9
       refine V.seq ?_
       refine V.region ?_
       refine V.loadO T_ok Fk2 rfl rfl rfl rfl rfl ?_
       refine V.run T_ok 1 rfl ?_
       refine V.storeO Fk16 rfl rfl rfl rfl sz27 rfl rfl rfl rfl ?_
       rintro w118 G119 z121 Fs120
       clear Fk16
       have z122 := V.Fr.size G119
       first | replace F_o := F_o.mb G119 hD_o | clear F_o | skip
       first | replace Fk9 := Fk9.mv1 G119 (by omega) | clear Fk9 | skip
       first | replace F24 := F24.ma G119 | clear F24 | skip
       first | replace Fk2 := Fk2.mv1 G119 (by omega) | clear Fk2 | skip
       replace HG := HG.n1 G119
       clear G119
       have Fk16 := Fs120; clear Fs120
       simp only [V.spliceL, V.cellsL] at Fk16
       refine V.run T_ok 1 rfl ?_
       refine V.nil ?_
       refine V.tN ?_
       refine V.ret ?_
       refine V.bR ?_
       refine V.tR ?_
       refine V.done2 rfl (V.resV_cell T_ok Fk16 rfl rfl) (V.resV_tmp rfl) ?_
       first
         | rw [show rFinish d ep aw al c s = (d, ovE d.st) by simp only [rFinish, stR]; grind [ovE, rRecov]]
       exact ⟨a22, c23, (by first | rfl | simp only [List.length_set]), F24.re, HG⟩
      ·
       try replace h9 := V.dec h9
       try simp only [V.mk0, V.mk1, V.mk2, V.mk3] at h9
       refine V.seq ?_
       refine V.region ?_
       refine V.run T_ok 1 rfl ?_
       refine V.loadO T_ok Fk2 rfl rfl rfl rfl rfl ?_
       refine V.run T_ok 3 rfl ?_
       refine V.nil ?_
       refine V.tN ?_
       refine V.condT rfl (fun h11 => ?_) (fun h11 => ?_)
       ·
        try replace h11 := V.dec h11
        try simp only [V.mk0, V.mk1, V.mk2, V.mk3] at h11
        refine V.seq ?_
        refine V.region ?_
        refine V.loadO T_ok Fk2 rfl rfl rfl rfl rfl ?_
        refine V.storeO Fk16 rfl rfl rfl rfl sz27 rfl rfl rfl rfl ?_
        rintro w123 G124 z126 Fs125
        clear Fk16
        have z127 := V.Fr.size G124
        first | replace F_o := F_o.mb G124 hD_o | clear F_o | skip
        first | replace Fk9 := Fk9.mv1 G124 (by omega) | clear Fk9 | skip
        first | replace F24 := F24.ma G124 | clear F24 | skip
        first | replace Fk2 := Fk2.mv1 G124 (by omega) | clear Fk2 | skip
        replace HG := HG.n1 G124
        clear G124
        have Fk16 := Fs125; clear Fs125
        simp only [V.spliceL, V.cellsL] at Fk16
        refine V.run T_ok 1 rfl ?_
        refine V.nil ?_
        refine V.tN ?_
        refine V.ret ?_
        refine V.bR ?_
        refine V.tR ?_
        refine V.done2 rfl (V.resV_cell T_ok Fk16 rfl rfl) (V.resV_tmp rfl) ?_
        first
          | rw [show rFinish d ep aw al c s = (d, 84) by simp only [rFinish, stR]; grind [ovE, rRecov]]
        exact ⟨a22, c23, (by first | rfl | simp only [List.length_set]), F24.re, HG⟩
       ·
        try replace h11 := V.dec h11
        try simp only [V.mk0, V.mk1, V.mk2, V.mk3] at h11
        refine V.seq ?_
        refine V.region ?_
        refine V.run T_ok 1 rfl ?_
        refine V.loadO T_ok Fk2 rfl rfl rfl rfl rfl ?_
        refine V.run T_ok 2 rfl ?_
        refine V.split (j := 3) (t := 64) rfl rfl (fun g13_3 => ?_) (fun g13_3 => ?_)
        ·
         try replace g13_3 := V.dec g13_3
         try simp only [V.mk0, V.mk1, V.mk2, V.mk3] at g13_3
         refine V.run T_ok 3 rfl ?_
         refine V.split (j := 6) (t := 67) rfl rfl (fun g13_6 => ?_) (fun g13_6 => ?_)
         ·
          try replace g13_6 := V.dec g13_6
          try simp only [V.mk0, V.mk1, V.mk2, V.mk3] at g13_6
          refine V.run T_ok 13 rfl ?_
          refine V.nil ?_
          refine V.tN ?_
          refine V.condY rfl rfl ?_
          refine V.seq ?_
          refine V.region ?_
          refine V.loadO T_ok Fk2 rfl rfl rfl rfl rfl ?_
          refine V.storeO Fk16 rfl rfl rfl rfl sz27 rfl rfl rfl rfl ?_
          rintro w128 G129 z131 Fs130
          clear Fk16
          have z132 := V.Fr.size G129
          first | replace F_o := F_o.mb G129 hD_o | clear F_o | skip
          first | replace Fk9 := Fk9.mv1 G129 (by omega) | clear Fk9 | skip
          first | replace F24 := F24.ma G129 | clear F24 | skip
          first | replace Fk2 := Fk2.mv1 G129 (by omega) | clear Fk2 | skip
          replace HG := HG.n1 G129
          clear G129
          have Fk16 := Fs130; clear Fs130
          simp only [V.spliceL, V.cellsL] at Fk16
          refine V.run T_ok 1 rfl ?_
          refine V.nil ?_
          refine V.tN ?_
          refine V.ret ?_
          refine V.bR ?_
          refine V.tR ?_
          refine V.done2 rfl (V.resV_cell T_ok Fk16 rfl rfl) (V.resV_tmp rfl) ?_
          first
            | rw [show rFinish d ep aw al c s = (d, 123) by simp only [rFinish, stR]; grind [ovE, rRecov]]
          exact ⟨a22, c23, (by first | rfl | simp only [List.length_set]), F24.re, HG⟩
         ·
          try replace g13_6 := V.dec g13_6
          try simp only [V.mk0, V.mk1, V.mk2, V.mk3] at g13_6
          refine V.run T_ok 1 rfl ?_
          refine V.yes rfl rfl rfl ?_
          refine V.loadO T_ok Fk2 rfl rfl rfl rfl rfl ?_
          refine V.run T_ok 4 rfl ?_
          refine V.split (j := 12) (t := 73) rfl rfl (fun g13_12 => ?_) (fun g13_12 => ?_)
          ·
           try replace g13_12 := V.dec g13_12
           try simp only [V.mk0, V.mk1, V.mk2, V.mk3] at g13_12
           refine V.run T_ok 7 rfl ?_
           refine V.nil ?_
           refine V.tN ?_
           refine V.condY rfl rfl ?_
           refine V.seq ?_
           refine V.region ?_
           refine V.loadO T_ok Fk2 rfl rfl rfl rfl rfl ?_
           refine V.storeO Fk16 rfl rfl rfl rfl sz27 rfl rfl rfl rfl ?_
           rintro w133 G134 z136 Fs135
           clear Fk16
           have z137 := V.Fr.size G134
           first | replace F_o := F_o.mb G134 hD_o | clear F_o | skip
           first | replace Fk9 := Fk9.mv1 G134 (by omega) | clear Fk9 | skip
           first | replace F24 := F24.ma G134 | clear F24 | skip
           first | replace Fk2 := Fk2.mv1 G134 (by omega) | clear Fk2 | skip
           replace HG := HG.n1 G134
           clear G134
           have Fk16 := Fs135; clear Fs135
           simp only [V.spliceL, V.cellsL] at Fk16
           refine V.run T_ok 1 rfl ?_
           refine V.nil ?_
           refine V.tN ?_
           refine V.ret ?_
           refine V.bR ?_
           refine V.tR ?_
           refine V.done2 rfl (V.resV_cell T_ok Fk16 rfl rfl) (V.resV_tmp rfl) ?_
           first
             | rw [show rFinish d ep aw al c s = (d, 123) by simp only [rFinish, stR]; grind [ovE, rRecov]]
           exact ⟨a22, c23, (by first | rfl | simp only [List.length_set]), F24.re, HG⟩
          ·
           try replace g13_12 := V.dec g13_12
           try simp only [V.mk0, V.mk1, V.mk2, V.mk3] at g13_12
           refine V.run T_ok 1 rfl ?_
           refine V.yes rfl rfl rfl ?_
           refine V.loadO T_ok Fk2 rfl rfl rfl rfl rfl ?_
           refine V.yes rfl rfl rfl ?_
           refine V.loadO T_ok Fk9 rfl rfl rfl rfl rfl ?_
           refine V.yes rfl rfl rfl ?_
           refine V.step rfl rfl (V.neA_run rfl rfl rfl eqG24 (eqS24 _)) ?_
           refine V.run T_ok 3 rfl ?_
           refine V.nil ?_
           refine V.tN ?_
           refine V.condT rfl (fun h13 => ?_) (fun h13 => ?_)
           ·
            try replace h13 := V.dec h13
            try simp only [V.mk0, V.mk1, V.mk2, V.mk3] at h13
            refine V.seq ?_
            refine V.region ?_
            refine V.loadO T_ok Fk2 rfl rfl rfl rfl rfl ?_
            refine V.storeO Fk16 rfl rfl rfl rfl sz27 rfl rfl rfl rfl ?_
            rintro w138 G139 z141 Fs140
            clear Fk16
            have z142 := V.Fr.size G139
            first | replace F_o := F_o.mb G139 hD_o | clear F_o | skip
            first | replace Fk9 := Fk9.mv1 G139 (by omega) | clear Fk9 | skip
            first | replace F24 := F24.ma G139 | clear F24 | skip
            first | replace Fk2 := Fk2.mv1 G139 (by omega) | clear Fk2 | skip
            replace HG := HG.n1 G139
            clear G139
            have Fk16 := Fs140; clear Fs140
            simp only [V.spliceL, V.cellsL] at Fk16
            refine V.run T_ok 1 rfl ?_
            refine V.nil ?_
            refine V.tN ?_
            refine V.ret ?_
            refine V.bR ?_
            refine V.tR ?_
            refine V.done2 rfl (V.resV_cell T_ok Fk16 rfl rfl) (V.resV_tmp rfl) ?_
            first
              | rw [show rFinish d ep aw al c s = (d, 123) by simp only [rFinish, stR]; grind [ovE, rRecov]]
            exact ⟨a22, c23, (by first | rfl | simp only [List.length_set]), F24.re, HG⟩
           ·
            try replace h13 := V.dec h13
            try simp only [V.mk0, V.mk1, V.mk2, V.mk3] at h13
            refine V.skip ?_
            refine V.bN ?_
            refine V.tN ?_
            refine V.seq ?_
            refine V.region ?_
            refine V.loadO T_ok Fk2 rfl rfl rfl rfl rfl ?_
            refine V.run T_ok 1 rfl ?_
            refine V.loadO T_ok Fk9 rfl rfl rfl rfl rfl ?_
            refine V.run T_ok 1 rfl ?_
            refine V.call (decided_spec (ep := ep) (aw := aw) (al := al) (c := c) (d := d) F24 (fun k hk => by have := hk.2; omega)) rfl rfl rfl ?_
            rintro _ w146 ⟨a143, c144, rfl, F145, G147⟩
            have z148 := V.Fr.size G147
            try replace F_o := F_o.gr G147
            try replace Fk9 := Fk9.gr G147
            try replace Fk16 := Fk16.gr G147
            try replace F24 := F24.gr G147
            try replace Fk2 := Fk2.gr G147
            replace HG := HG.grow G147
            clear G147
            refine V.storeO Fk16 rfl rfl rfl rfl sz27 rfl rfl rfl rfl ?_
            rintro w149 G150 z152 Fs151
            clear Fk16
            have z153 := V.Fr.size G150
            first | replace F_o := F_o.mb G150 hD_o | clear F_o | skip
            first | replace Fk9 := Fk9.mv1 G150 (by omega) | clear Fk9 | skip
            first | replace F24 := F24.ma G150 | clear F24 | skip
            first | replace Fk2 := Fk2.mv1 G150 (by omega) | clear Fk2 | skip
            first | replace F145 := F145.ma G150 | clear F145 | skip
            replace HG := HG.n1 G150
            clear G150
            have Fk16 := Fs151; clear Fs151
            simp only [V.spliceL, V.cellsL] at Fk16
            refine V.run T_ok 1 rfl ?_
            refine V.nil ?_
            refine V.tN ?_
            refine V.ret ?_
            refine V.done2 rfl (V.resV_cell T_ok Fk16 rfl rfl) (V.resV_tmp rfl) ?_
            first
              | rw [show rFinish d ep aw al c s = (decR d ep aw al c, 0) by simp only [rFinish, stR]; grind [ovE, rRecov]]
            exact ⟨a143, c144, (by first | rfl | simp only [List.length_set]), F145.re, HG⟩
        ·
         try replace g13_3 := V.dec g13_3
         try simp only [V.mk0, V.mk1, V.mk2, V.mk3] at g13_3
         refine V.run T_ok 16 rfl ?_
         refine V.nil ?_
         refine V.tN ?_
         refine V.condN rfl rfl ?_
         refine V.skip ?_
         refine V.bN ?_
         refine V.tN ?_
         refine V.seq ?_
         refine V.region ?_
         refine V.loadO T_ok Fk2 rfl rfl rfl rfl rfl ?_
         refine V.run T_ok 1 rfl ?_
         refine V.loadO T_ok Fk9 rfl rfl rfl rfl rfl ?_
         refine V.run T_ok 1 rfl ?_
         refine V.call (decided_spec (ep := ep) (aw := aw) (al := al) (c := c) (d := d) F24 (fun k hk => by have := hk.2; omega)) rfl rfl rfl ?_
         rintro _ w157 ⟨a154, c155, rfl, F156, G158⟩
         have z159 := V.Fr.size G158
         try replace F_o := F_o.gr G158
         try replace Fk9 := Fk9.gr G158
         try replace Fk16 := Fk16.gr G158
         try replace F24 := F24.gr G158
         try replace Fk2 := Fk2.gr G158
         replace HG := HG.grow G158
         clear G158
         refine V.storeO Fk16 rfl rfl rfl rfl sz27 rfl rfl rfl rfl ?_
         rintro w160 G161 z163 Fs162
         clear Fk16
         have z164 := V.Fr.size G161
         first | replace F_o := F_o.mb G161 hD_o | clear F_o | skip
         first | replace Fk9 := Fk9.mv1 G161 (by omega) | clear Fk9 | skip
         first | replace F24 := F24.ma G161 | clear F24 | skip
         first | replace Fk2 := Fk2.mv1 G161 (by omega) | clear Fk2 | skip
         first | replace F156 := F156.ma G161 | clear F156 | skip
         replace HG := HG.n1 G161
         clear G161
         have Fk16 := Fs162; clear Fs162
         simp only [V.spliceL, V.cellsL] at Fk16
         refine V.run T_ok 1 rfl ?_
         refine V.nil ?_
         refine V.tN ?_
         refine V.ret ?_
         refine V.done2 rfl (V.resV_cell T_ok Fk16 rfl rfl) (V.resV_tmp rfl) ?_
         first
           | rw [show rFinish d ep aw al c s = (decR d ep aw al c, 0) by simp only [rFinish, stR]; grind [ovE, rRecov]]
         exact ⟨a154, c155, (by first | rfl | simp only [List.length_set]), F156.re, HG⟩

set_option maxHeartbeats 4000000 in
set_option maxRecDepth 10000 in
theorem rfinish_spec {w : World} {d : RecV} {D_o : Nat → Prop} {c_o : Nat} {a_o : Option Addr} (F_o : Sl V.Cod.write w D_o a_o c_o d.ws) (hD_o : ∀ k, D_o k → k < w.heap.size) {ep : Int} {aw : Int} {al : Int} {c : Bool} {s : Bool} (hl : d.ws.length ≤ 5864062014805) :
    Meets Try.prog 35 [.agg #[.int .i64 d.id, .int .i64 d.ep, .int .i64 d.st, .int .i64 d.aw, .int .i64 d.al, .int .i64 d.bw, .int .i64 d.bl, .slice a_o d.ws.length c_o], .int .i64 ep, .agg #[.int .i64 aw, .int .i64 al], .bool c, .bool s] w fun r w' => ∃ (ra26 : Option Addr) (rc26 : Nat), r = .tuple #[.agg #[.int .i64 ((rFinish d ep aw al c s).1.id), .int .i64 ((rFinish d ep aw al c s).1.ep), .int .i64 ((rFinish d ep aw al c s).1.st), .int .i64 ((rFinish d ep aw al c s).1.aw), .int .i64 ((rFinish d ep aw al c s).1.al), .int .i64 ((rFinish d ep aw al c s).1.bw), .int .i64 ((rFinish d ep aw al c s).1.bl), .slice ra26 ((rFinish d ep aw al c s).1.ws).length rc26], .int .i64 ((rFinish d ep aw al c s).2)] ∧ Sl V.Cod.write w' (V.In w.heap.size w'.heap.size) ra26 rc26 ((rFinish d ep aw al c s).1.ws) ∧ Gr w w' := by
 have HG := V.Fr.refl [] w
 refine V.enter (n := 106) Try.func35 rfl rfl (by decide) rfl ?_
 refine V.seq ?_
 refine V.region ?_
 refine V.box rfl rfl rfl rfl ?_
 rintro k1 w3 s5 s6 G4 Fk2
 have z7 := V.Fr.size G4
 try replace F_o := F_o.gr G4
 replace HG := HG.grow G4
 clear G4
 try simp only [V.cellsL, V.spliceL] at Fk2
 refine V.box rfl rfl rfl rfl ?_
 rintro k8 w10 s12 s13 G11 Fk9
 have z14 := V.Fr.size G11
 try replace F_o := F_o.gr G11
 try replace Fk2 := Fk2.gr G11
 replace HG := HG.grow G11
 clear G11
 try simp only [V.cellsL, V.spliceL] at Fk9
 refine V.alloc zero27 rfl rfl rfl ?_
 rintro k15 w17 s19 s20 G18 Fk16
 have z21 := V.Fr.size G18
 try replace F_o := F_o.gr G18
 try replace Fk2 := Fk2.gr G18
 try replace Fk9 := Fk9.gr G18
 replace HG := HG.grow G18
 clear G18
 try simp only [V.cellsL, V.spliceL] at Fk16
 refine V.run T_ok 1 rfl ?_
 refine V.nil ?_
 refine V.tN ?_
 refine V.seq ?_
 refine V.region ?_
 refine V.loadO T_ok Fk2 rfl rfl rfl rfl rfl ?_
 refine V.call (copy_spec (d := d) F_o (fun k hk => by have := hD_o k hk; omega) (by first | assumption | omega | decide)) rfl rfl rfl ?_
 rintro _ w25 ⟨a22, c23, rfl, F24, G26⟩
 have z27 := V.Fr.size G26
 try replace F_o := F_o.gr G26
 try replace Fk2 := Fk2.gr G26
 try replace Fk9 := Fk9.gr G26
 try replace Fk16 := Fk16.gr G26
 replace HG := HG.grow G26
 clear G26
 refine V.alloc zero27 rfl rfl rfl ?_
 rintro k28 w30 s32 s33 G31 Fk29
 have z34 := V.Fr.size G31
 try replace F_o := F_o.gr G31
 try replace Fk2 := Fk2.gr G31
 try replace Fk9 := Fk9.gr G31
 try replace Fk16 := Fk16.gr G31
 try replace F24 := F24.gr G31
 replace HG := HG.grow G31
 clear G31
 try simp only [V.cellsL, V.spliceL] at Fk29
 refine V.storeO Fk29 rfl rfl rfl rfl sz27 rfl rfl rfl rfl ?_
 rintro w35 G36 z38 Fs37
 clear Fk29
 have z39 := V.Fr.size G36
 first | replace F_o := F_o.mb G36 hD_o | clear F_o | skip
 first | replace Fk2 := Fk2.mv1 G36 (by omega) | clear Fk2 | skip
 first | replace Fk9 := Fk9.mv1 G36 (by omega) | clear Fk9 | skip
 first | replace Fk16 := Fk16.mv1 G36 (by omega) | clear Fk16 | skip
 first | replace F24 := F24.ma G36 | clear F24 | skip
 replace HG := HG.n1 G36
 clear G36
 have Fk29 := Fs37; clear Fs37
 simp only [V.spliceL, V.cellsL] at Fk29
 refine V.nil ?_
 refine V.tN ?_
 refine V.seq ?_
 refine V.region ?_
 refine V.run T_ok 1 rfl ?_
 refine V.call (rnumber_ok (n := ep)) rfl rfl rfl ?_
 rintro _ w35_ ⟨rfl, rfl⟩
 refine V.run T_ok 1 rfl ?_
 refine V.nil ?_
 refine V.tN ?_
 refine V.seq ?_
 refine V.region ?_
 refine V.loadO T_ok Fk9 rfl rfl rfl rfl rfl ?_
 refine V.call (rright_spec (a := aw) (b := al)) rfl rfl rfl ?_
 rintro _ w41 ⟨rfl, G42⟩
 have z43 := V.Fr.size G42
 try replace F_o := F_o.gr G42
 try replace Fk2 := Fk2.gr G42
 try replace Fk9 := Fk9.gr G42
 try replace Fk16 := Fk16.gr G42
 try replace F24 := F24.gr G42
 try replace Fk29 := Fk29.gr G42
 replace HG := HG.grow G42
 clear G42
 refine V.run T_ok 1 rfl ?_
 refine V.nil ?_
 refine V.tN ?_
 refine V.seq ?_
 refine V.seq ?_
 refine V.region ?_
 refine V.run T_ok 3 rfl ?_
 refine V.orG T_ok 2 2 24 rfl rfl rfl rfl rfl rfl rfl rfl ?_
 refine V.nil ?_
 refine V.tN ?_
 refine V.condT rfl (fun h4 => ?_) (fun h4 => ?_)
 ·
  try replace h4 := V.dec h4
  try simp only [V.mk0, V.mk1, V.mk2, V.mk3] at h4
  refine V.seq ?_
  refine V.region ?_
  refine V.loadO T_ok Fk29 rfl rfl rfl rfl rfl ?_
  refine V.storeO Fk16 rfl rfl rfl rfl sz27 rfl rfl rfl rfl ?_
  rintro w44 G45 z47 Fs46
  clear Fk16
  have z48 := V.Fr.size G45
  first | replace F_o := F_o.mb G45 hD_o | clear F_o | skip
  first | replace Fk2 := Fk2.mv1 G45 (by omega) | clear Fk2 | skip
  first | replace Fk9 := Fk9.mv1 G45 (by omega) | clear Fk9 | skip
  first | replace F24 := F24.ma G45 | clear F24 | skip
  first | replace Fk29 := Fk29.mv1 G45 (by omega) | clear Fk29 | skip
  replace HG := HG.n1 G45
  clear G45
  have Fk16 := Fs46; clear Fs46
  simp only [V.spliceL, V.cellsL] at Fk16
  refine V.run T_ok 1 rfl ?_
  refine V.nil ?_
  refine V.tN ?_
  refine V.ret ?_
  refine V.tR ?_
  refine V.done2 rfl (V.resV_cell T_ok Fk16 rfl rfl) (V.resV_tmp rfl) ?_
  first
    | rw [show rFinish d ep aw al c s = (d, 1) by simp only [rFinish, stR]; grind [ovE, rRecov]]
  exact ⟨a22, c23, (by first | rfl | simp only [List.length_set]), F24.re, HG⟩
 ·
  try replace h4 := V.dec h4
  try simp only [V.mk0, V.mk1, V.mk2, V.mk3] at h4
  refine V.skip ?_
  refine V.tN ?_
  refine V.seq ?_
  refine V.region ?_
  refine V.run T_ok 1 rfl ?_
  refine V.loadO T_ok Fk2 rfl rfl rfl rfl rfl ?_
  refine V.run T_ok 2 rfl ?_
  refine V.split (j := 3) (t := 32) rfl rfl (fun g6_3 => ?_) (fun g6_3 => ?_)
  ·
   try replace g6_3 := V.dec g6_3
   try simp only [V.mk0, V.mk1, V.mk2, V.mk3] at g6_3
   refine V.run T_ok 5 rfl ?_
   refine V.nil ?_
   refine V.tN ?_
   refine V.seq ?_
   refine V.seq ?_
   refine V.region ?_
   refine V.run T_ok 2 rfl ?_
   refine V.andG T_ok 1 1 38 rfl rfl rfl rfl rfl rfl rfl rfl ?_
   refine V.nil ?_
   refine V.tN ?_
   refine V.condT rfl (fun h7 => ?_) (fun h7 => ?_)
   ·
    try replace h7 := V.dec h7
    try simp only [V.mk0, V.mk1, V.mk2, V.mk3] at h7
    refine V.seq ?_
    refine V.region ?_
    refine V.loadO T_ok Fk29 rfl rfl rfl rfl rfl ?_
    refine V.storeO Fk16 rfl rfl rfl rfl sz27 rfl rfl rfl rfl ?_
    rintro w49 G50 z52 Fs51
    clear Fk16
    have z53 := V.Fr.size G50
    first | replace F_o := F_o.mb G50 hD_o | clear F_o | skip
    first | replace Fk2 := Fk2.mv1 G50 (by omega) | clear Fk2 | skip
    first | replace Fk9 := Fk9.mv1 G50 (by omega) | clear Fk9 | skip
    first | replace F24 := F24.ma G50 | clear F24 | skip
    first | replace Fk29 := Fk29.mv1 G50 (by omega) | clear Fk29 | skip
    replace HG := HG.n1 G50
    clear G50
    have Fk16 := Fs51; clear Fs51
    simp only [V.spliceL, V.cellsL] at Fk16
    refine V.run T_ok 1 rfl ?_
    refine V.nil ?_
    refine V.tN ?_
    refine V.ret ?_
    refine V.tR ?_
    refine V.done2 rfl (V.resV_cell T_ok Fk16 rfl rfl) (V.resV_tmp rfl) ?_
    first
      | rw [show rFinish d ep aw al c s = (d, 0) by simp only [rFinish, stR]; grind [ovE, rRecov]]
    exact ⟨a22, c23, (by first | rfl | simp only [List.length_set]), F24.re, HG⟩
   ·
    try replace h7 := V.dec h7
    try simp only [V.mk0, V.mk1, V.mk2, V.mk3] at h7
    refine V.skip ?_
    refine V.tN ?_
    refine V.seq ?_
    refine V.seq ?_
    refine V.region ?_
    refine V.run T_ok 1 rfl ?_
    refine V.nil ?_
    refine V.tN ?_
    refine V.condT rfl (fun h9 => ?_) (fun h9 => ?_)
    ·
     try replace h9 := V.dec h9
     try simp only [V.mk0, V.mk1, V.mk2, V.mk3] at h9
     refine V.seq ?_
     refine V.seq ?_
     refine V.region ?_
     refine V.run T_ok 1 rfl ?_
     refine V.loadO T_ok Fk2 rfl rfl rfl rfl rfl ?_
     refine V.run T_ok 2 rfl ?_
     refine V.split (j := 3) (t := 46) rfl rfl (fun g10_3 => ?_) (fun g10_3 => ?_)
     ·
      try replace g10_3 := V.dec g10_3
      try simp only [V.mk0, V.mk1, V.mk2, V.mk3] at g10_3
      refine V.run T_ok 11 rfl ?_
      refine V.nil ?_
      refine V.tN ?_
      refine V.condY rfl rfl ?_
      refine V.seq ?_
      refine V.region ?_
      refine V.loadO T_ok Fk29 rfl rfl rfl rfl rfl ?_
      refine V.storeO Fk16 rfl rfl rfl rfl sz27 rfl rfl rfl rfl ?_
      rintro w54 G55 z57 Fs56
      clear Fk16
      have z58 := V.Fr.size G55
      first | replace F_o := F_o.mb G55 hD_o | clear F_o | skip
      first | replace Fk2 := Fk2.mv1 G55 (by omega) | clear Fk2 | skip
      first | replace Fk9 := Fk9.mv1 G55 (by omega) | clear Fk9 | skip
      first | replace F24 := F24.ma G55 | clear F24 | skip
      first | replace Fk29 := Fk29.mv1 G55 (by omega) | clear Fk29 | skip
      replace HG := HG.n1 G55
      clear G55
      have Fk16 := Fs56; clear Fs56
      simp only [V.spliceL, V.cellsL] at Fk16
      refine V.run T_ok 1 rfl ?_
      refine V.nil ?_
      refine V.tN ?_
      refine V.ret ?_
      refine V.tR ?_
      refine V.tR ?_
      refine V.done2 rfl (V.resV_cell T_ok Fk16 rfl rfl) (V.resV_tmp rfl) ?_
      first
        | rw [show rFinish d ep aw al c s = (d, 84) by simp only [rFinish, stR]; grind [ovE, rRecov]]
      exact ⟨a22, c23, (by first | rfl | simp only [List.length_set]), F24.re, HG⟩
     ·
      try replace g10_3 := V.dec g10_3
      try simp only [V.mk0, V.mk1, V.mk2, V.mk3] at g10_3
      refine V.run T_ok 1 rfl ?_
      refine V.yes rfl rfl rfl ?_
      refine V.loadO T_ok Fk2 rfl rfl rfl rfl rfl ?_
      refine V.run T_ok 4 rfl ?_
      refine V.split (j := 9) (t := 52) rfl rfl (fun g10_9 => ?_) (fun g10_9 => ?_)
      ·
       try replace g10_9 := V.dec g10_9
       try simp only [V.mk0, V.mk1, V.mk2, V.mk3] at g10_9
       refine V.run T_ok 5 rfl ?_
       refine V.nil ?_
       refine V.tN ?_
       refine V.condY rfl rfl ?_
       refine V.seq ?_
       refine V.region ?_
       refine V.loadO T_ok Fk29 rfl rfl rfl rfl rfl ?_
       refine V.storeO Fk16 rfl rfl rfl rfl sz27 rfl rfl rfl rfl ?_
       rintro w59 G60 z62 Fs61
       clear Fk16
       have z63 := V.Fr.size G60
       first | replace F_o := F_o.mb G60 hD_o | clear F_o | skip
       first | replace Fk2 := Fk2.mv1 G60 (by omega) | clear Fk2 | skip
       first | replace Fk9 := Fk9.mv1 G60 (by omega) | clear Fk9 | skip
       first | replace F24 := F24.ma G60 | clear F24 | skip
       first | replace Fk29 := Fk29.mv1 G60 (by omega) | clear Fk29 | skip
       replace HG := HG.n1 G60
       clear G60
       have Fk16 := Fs61; clear Fs61
       simp only [V.spliceL, V.cellsL] at Fk16
       refine V.run T_ok 1 rfl ?_
       refine V.nil ?_
       refine V.tN ?_
       refine V.ret ?_
       refine V.tR ?_
       refine V.tR ?_
       refine V.done2 rfl (V.resV_cell T_ok Fk16 rfl rfl) (V.resV_tmp rfl) ?_
       first
         | rw [show rFinish d ep aw al c s = (d, 84) by simp only [rFinish, stR]; grind [ovE, rRecov]]
       exact ⟨a22, c23, (by first | rfl | simp only [List.length_set]), F24.re, HG⟩
      ·
       try replace g10_9 := V.dec g10_9
       try simp only [V.mk0, V.mk1, V.mk2, V.mk3] at g10_9
       refine V.run T_ok 1 rfl ?_
       refine V.yes rfl rfl rfl ?_
       refine V.loadO T_ok Fk2 rfl rfl rfl rfl rfl ?_
       refine V.yes rfl rfl rfl ?_
       refine V.loadO T_ok Fk9 rfl rfl rfl rfl rfl ?_
       refine V.yes rfl rfl rfl ?_
       refine V.step rfl rfl (V.neA_run rfl rfl rfl eqG24 (eqS24 _)) ?_
       refine V.run T_ok 1 rfl ?_
       refine V.nil ?_
       refine V.tN ?_
       refine V.condT rfl (fun h10 => ?_) (fun h10 => ?_)
       ·
        try replace h10 := V.dec h10
        try simp only [V.mk0, V.mk1, V.mk2, V.mk3] at h10
        refine V.seq ?_
        refine V.region ?_
        refine V.loadO T_ok Fk29 rfl rfl rfl rfl rfl ?_
        refine V.storeO Fk16 rfl rfl rfl rfl sz27 rfl rfl rfl rfl ?_
        rintro w64 G65 z67 Fs66
        clear Fk16
        have z68 := V.Fr.size G65
        first | replace F_o := F_o.mb G65 hD_o | clear F_o | skip
        first | replace Fk2 := Fk2.mv1 G65 (by omega) | clear Fk2 | skip
        first | replace Fk9 := Fk9.mv1 G65 (by omega) | clear Fk9 | skip
        first | replace F24 := F24.ma G65 | clear F24 | skip
        first | replace Fk29 := Fk29.mv1 G65 (by omega) | clear Fk29 | skip
        replace HG := HG.n1 G65
        clear G65
        have Fk16 := Fs66; clear Fs66
        simp only [V.spliceL, V.cellsL] at Fk16
        refine V.run T_ok 1 rfl ?_
        refine V.nil ?_
        refine V.tN ?_
        refine V.ret ?_
        refine V.tR ?_
        refine V.tR ?_
        refine V.done2 rfl (V.resV_cell T_ok Fk16 rfl rfl) (V.resV_tmp rfl) ?_
        first
          | rw [show rFinish d ep aw al c s = (d, 84) by simp only [rFinish, stR]; grind [ovE, rRecov]]
        exact ⟨a22, c23, (by first | rfl | simp only [List.length_set]), F24.re, HG⟩
       ·
        try replace h10 := V.dec h10
        try simp only [V.mk0, V.mk1, V.mk2, V.mk3] at h10
        refine V.skip ?_
        refine V.tN ?_
        refine V.seq ?_
        refine V.region ?_
        refine V.loadO T_ok Fk2 rfl rfl rfl rfl rfl ?_
        refine V.run T_ok 1 rfl ?_
        refine V.loadO T_ok Fk9 rfl rfl rfl rfl rfl ?_
        refine V.run T_ok 1 rfl ?_
        refine V.call (rdecided_spec (ep := ep) (aw := aw) (al := al) (c := c) (d := d) F_o (fun k hk => by have := hD_o k hk; omega)) rfl rfl rfl ?_
        rintro _ w72 ⟨a69, c70, rfl, F71, G73⟩
        have z74 := V.Fr.size G73
        try replace F_o := F_o.gr G73
        try replace Fk2 := Fk2.gr G73
        try replace Fk9 := Fk9.gr G73
        try replace Fk16 := Fk16.gr G73
        try replace F24 := F24.gr G73
        try replace Fk29 := Fk29.gr G73
        replace HG := HG.grow G73
        clear G73
        refine V.storeO Fk16 rfl rfl rfl rfl sz27 rfl rfl rfl rfl ?_
        rintro w75 G76 z78 Fs77
        clear Fk16
        have z79 := V.Fr.size G76
        first | replace F_o := F_o.mb G76 hD_o | clear F_o | skip
        first | replace Fk2 := Fk2.mv1 G76 (by omega) | clear Fk2 | skip
        first | replace Fk9 := Fk9.mv1 G76 (by omega) | clear Fk9 | skip
        first | replace F24 := F24.ma G76 | clear F24 | skip
        first | replace Fk29 := Fk29.mv1 G76 (by omega) | clear Fk29 | skip
        first | replace F71 := F71.ma G76 | clear F71 | skip
        replace HG := HG.n1 G76
        clear G76
        have Fk16 := Fs77; clear Fs77
        simp only [V.spliceL, V.cellsL] at Fk16
        refine V.run T_ok 1 rfl ?_
        refine V.nil ?_
        refine V.tN ?_
        refine V.ret ?_
        refine V.tR ?_
        refine V.done2 rfl (V.resV_cell T_ok Fk16 rfl rfl) (V.resV_tmp rfl) ?_
        first
          | rw [show rFinish d ep aw al c s = (decR d ep aw al c, 0) by simp only [rFinish, stR]; grind [ovE, rRecov]]
        exact ⟨a69, c70, (by first | rfl | simp only [List.length_set]), F71.re, HG⟩
    ·
     try replace h9 := V.dec h9
     try simp only [V.mk0, V.mk1, V.mk2, V.mk3] at h9
     refine V.skip ?_
     refine V.tN ?_
     refine V.seq ?_
     refine V.seq ?_
     refine V.region ?_
     refine V.run T_ok 1 rfl ?_
     refine V.loadO T_ok Fk2 rfl rfl rfl rfl rfl ?_
     refine V.run T_ok 1 rfl ?_
     refine V.nil ?_
     refine V.tN ?_
     refine V.condT rfl (fun h13 => ?_) (fun h13 => ?_)
     ·
      try replace h13 := V.dec h13
      try simp only [V.mk0, V.mk1, V.mk2, V.mk3] at h13
      refine V.seq ?_
      refine V.seq ?_
      refine V.region ?_
      refine V.run T_ok 1 rfl ?_
      refine V.nil ?_
      refine V.tN ?_
      refine V.condT rfl (fun h14 => ?_) (fun h14 => ?_)
      ·
       try replace h14 := V.dec h14
       try simp only [V.mk0, V.mk1, V.mk2, V.mk3] at h14
       refine V.seq ?_
       refine V.region ?_
       refine V.loadO T_ok Fk29 rfl rfl rfl rfl rfl ?_
       refine V.storeO Fk16 rfl rfl rfl rfl sz27 rfl rfl rfl rfl ?_
       rintro w80 G81 z83 Fs82
       clear Fk16
       have z84 := V.Fr.size G81
       first | replace F_o := F_o.mb G81 hD_o | clear F_o | skip
       first | replace Fk2 := Fk2.mv1 G81 (by omega) | clear Fk2 | skip
       first | replace Fk9 := Fk9.mv1 G81 (by omega) | clear Fk9 | skip
       first | replace F24 := F24.ma G81 | clear F24 | skip
       first | replace Fk29 := Fk29.mv1 G81 (by omega) | clear Fk29 | skip
       replace HG := HG.n1 G81
       clear G81
       have Fk16 := Fs82; clear Fs82
       simp only [V.spliceL, V.cellsL] at Fk16
       refine V.run T_ok 1 rfl ?_
       refine V.nil ?_
       refine V.tN ?_
       refine V.ret ?_
       refine V.tR ?_
       refine V.tR ?_
       refine V.done2 rfl (V.resV_cell T_ok Fk16 rfl rfl) (V.resV_tmp rfl) ?_
       first
         | rw [show rFinish d ep aw al c s = (d, 0) by simp only [rFinish, stR]; grind [ovE, rRecov]]
       exact ⟨a22, c23, (by first | rfl | simp only [List.length_set]), F24.re, HG⟩
      ·
       try replace h14 := V.dec h14
       try simp only [V.mk0, V.mk1, V.mk2, V.mk3] at h14
       refine V.skip ?_
       refine V.tN ?_
       refine V.seq ?_
       refine V.region ?_
       refine V.loadO T_ok Fk29 rfl rfl rfl rfl rfl ?_
       refine V.storeO Fk16 rfl rfl rfl rfl sz27 rfl rfl rfl rfl ?_
       rintro w85 G86 z88 Fs87
       clear Fk16
       have z89 := V.Fr.size G86
       first | replace F_o := F_o.mb G86 hD_o | clear F_o | skip
       first | replace Fk2 := Fk2.mv1 G86 (by omega) | clear Fk2 | skip
       first | replace Fk9 := Fk9.mv1 G86 (by omega) | clear Fk9 | skip
       first | replace F24 := F24.ma G86 | clear F24 | skip
       first | replace Fk29 := Fk29.mv1 G86 (by omega) | clear Fk29 | skip
       replace HG := HG.n1 G86
       clear G86
       have Fk16 := Fs87; clear Fs87
       simp only [V.spliceL, V.cellsL] at Fk16
       refine V.run T_ok 1 rfl ?_
       refine V.nil ?_
       refine V.tN ?_
       refine V.ret ?_
       refine V.tR ?_
       refine V.done2 rfl (V.resV_cell T_ok Fk16 rfl rfl) (V.resV_tmp rfl) ?_
       first
         | rw [show rFinish d ep aw al c s = (d, 83) by simp only [rFinish, stR]; grind [ovE, rRecov]]
       exact ⟨a22, c23, (by first | rfl | simp only [List.length_set]), F24.re, HG⟩
     ·
      try replace h13 := V.dec h13
      try simp only [V.mk0, V.mk1, V.mk2, V.mk3] at h13
      refine V.skip ?_
      refine V.tN ?_
      refine V.seq ?_
      refine V.seq ?_
      refine V.region ?_
      refine V.run T_ok 1 rfl ?_
      refine V.loadO T_ok Fk2 rfl rfl rfl rfl rfl ?_
      refine V.run T_ok 1 rfl ?_
      refine V.nil ?_
      refine V.tN ?_
      refine V.condT rfl (fun h17 => ?_) (fun h17 => ?_)
      ·
       try replace h17 := V.dec h17
       try simp only [V.mk0, V.mk1, V.mk2, V.mk3] at h17
       refine V.seq ?_
       refine V.seq ?_
       refine V.region ?_
       refine V.run T_ok 1 rfl ?_
       refine V.nil ?_
       refine V.tN ?_
       refine V.condT rfl (fun h18 => ?_) (fun h18 => ?_)
       ·
        try replace h18 := V.dec h18
        try simp only [V.mk0, V.mk1, V.mk2, V.mk3] at h18
        refine V.seq ?_
        refine V.region ?_
        refine V.loadO T_ok Fk29 rfl rfl rfl rfl rfl ?_
        refine V.storeO Fk16 rfl rfl rfl rfl sz27 rfl rfl rfl rfl ?_
        rintro w90 G91 z93 Fs92
        clear Fk16
        have z94 := V.Fr.size G91
        first | replace F_o := F_o.mb G91 hD_o | clear F_o | skip
        first | replace Fk2 := Fk2.mv1 G91 (by omega) | clear Fk2 | skip
        first | replace Fk9 := Fk9.mv1 G91 (by omega) | clear Fk9 | skip
        first | replace F24 := F24.ma G91 | clear F24 | skip
        first | replace Fk29 := Fk29.mv1 G91 (by omega) | clear Fk29 | skip
        replace HG := HG.n1 G91
        clear G91
        have Fk16 := Fs92; clear Fs92
        simp only [V.spliceL, V.cellsL] at Fk16
        refine V.run T_ok 1 rfl ?_
        refine V.nil ?_
        refine V.tN ?_
        refine V.ret ?_
        refine V.tR ?_
        refine V.tR ?_
        refine V.done2 rfl (V.resV_cell T_ok Fk16 rfl rfl) (V.resV_tmp rfl) ?_
        first
          | rw [show rFinish d ep aw al c s = (d, 122) by simp only [rFinish, stR]; grind [ovE, rRecov]]
        exact ⟨a22, c23, (by first | rfl | simp only [List.length_set]), F24.re, HG⟩
       ·
        try replace h18 := V.dec h18
        try simp only [V.mk0, V.mk1, V.mk2, V.mk3] at h18
        refine V.skip ?_
        refine V.tN ?_
        refine V.seq ?_
        refine V.region ?_
        refine V.loadO T_ok Fk29 rfl rfl rfl rfl rfl ?_
        refine V.storeO Fk16 rfl rfl rfl rfl sz27 rfl rfl rfl rfl ?_
        rintro w95 G96 z98 Fs97
        clear Fk16
        have z99 := V.Fr.size G96
        first | replace F_o := F_o.mb G96 hD_o | clear F_o | skip
        first | replace Fk2 := Fk2.mv1 G96 (by omega) | clear Fk2 | skip
        first | replace Fk9 := Fk9.mv1 G96 (by omega) | clear Fk9 | skip
        first | replace F24 := F24.ma G96 | clear F24 | skip
        first | replace Fk29 := Fk29.mv1 G96 (by omega) | clear Fk29 | skip
        replace HG := HG.n1 G96
        clear G96
        have Fk16 := Fs97; clear Fs97
        simp only [V.spliceL, V.cellsL] at Fk16
        refine V.run T_ok 1 rfl ?_
        refine V.nil ?_
        refine V.tN ?_
        refine V.ret ?_
        refine V.tR ?_
        refine V.done2 rfl (V.resV_cell T_ok Fk16 rfl rfl) (V.resV_tmp rfl) ?_
        first
          | rw [show rFinish d ep aw al c s = (d, 0) by simp only [rFinish, stR]; grind [ovE, rRecov]]
        exact ⟨a22, c23, (by first | rfl | simp only [List.length_set]), F24.re, HG⟩
      ·
       try replace h17 := V.dec h17
       try simp only [V.mk0, V.mk1, V.mk2, V.mk3] at h17
       refine V.skip ?_
       refine V.tN ?_
       refine V.seq ?_
       refine V.seq ?_
       refine V.region ?_
       refine V.run T_ok 1 rfl ?_
       refine V.loadO T_ok Fk2 rfl rfl rfl rfl rfl ?_
       refine V.run T_ok 2 rfl ?_
       refine V.nil ?_
       refine V.tN ?_
       refine V.condT rfl (fun h21 => ?_) (fun h21 => ?_)
       ·
        try replace h21 := V.dec h21
        try simp only [V.mk0, V.mk1, V.mk2, V.mk3] at h21
        refine V.seq ?_
        refine V.region ?_
        refine V.loadO T_ok Fk29 rfl rfl rfl rfl rfl ?_
        refine V.storeO Fk16 rfl rfl rfl rfl sz27 rfl rfl rfl rfl ?_
        rintro w100 G101 z103 Fs102
        clear Fk16
        have z104 := V.Fr.size G101
        first | replace F_o := F_o.mb G101 hD_o | clear F_o | skip
        first | replace Fk2 := Fk2.mv1 G101 (by omega) | clear Fk2 | skip
        first | replace Fk9 := Fk9.mv1 G101 (by omega) | clear Fk9 | skip
        first | replace F24 := F24.ma G101 | clear F24 | skip
        first | replace Fk29 := Fk29.mv1 G101 (by omega) | clear Fk29 | skip
        replace HG := HG.n1 G101
        clear G101
        have Fk16 := Fs102; clear Fs102
        simp only [V.spliceL, V.cellsL] at Fk16
        refine V.run T_ok 1 rfl ?_
        refine V.nil ?_
        refine V.tN ?_
        refine V.ret ?_
        refine V.tR ?_
        refine V.done2 rfl (V.resV_cell T_ok Fk16 rfl rfl) (V.resV_tmp rfl) ?_
        first
          | rw [show rFinish d ep aw al c s = (d, 84) by simp only [rFinish, stR]; grind [ovE, rRecov]]
        exact ⟨a22, c23, (by first | rfl | simp only [List.length_set]), F24.re, HG⟩
       ·
        try replace h21 := V.dec h21
        try simp only [V.mk0, V.mk1, V.mk2, V.mk3] at h21
        refine V.skip ?_
        refine V.tN ?_
        refine V.seq ?_
        refine V.seq ?_
        refine V.region ?_
        refine V.run T_ok 1 rfl ?_
        refine V.loadO T_ok Fk2 rfl rfl rfl rfl rfl ?_
        refine V.run T_ok 2 rfl ?_
        refine V.split (j := 3) (t := 84) rfl rfl (fun g23_3 => ?_) (fun g23_3 => ?_)
        ·
         try replace g23_3 := V.dec g23_3
         try simp only [V.mk0, V.mk1, V.mk2, V.mk3] at g23_3
         refine V.run T_ok 3 rfl ?_
         refine V.split (j := 6) (t := 87) rfl rfl (fun g23_6 => ?_) (fun g23_6 => ?_)
         ·
          try replace g23_6 := V.dec g23_6
          try simp only [V.mk0, V.mk1, V.mk2, V.mk3] at g23_6
          refine V.run T_ok 12 rfl ?_
          refine V.nil ?_
          refine V.tN ?_
          refine V.condY rfl rfl ?_
          refine V.seq ?_
          refine V.region ?_
          refine V.loadO T_ok Fk29 rfl rfl rfl rfl rfl ?_
          refine V.storeO Fk16 rfl rfl rfl rfl sz27 rfl rfl rfl rfl ?_
          rintro w105 G106 z108 Fs107
          clear Fk16
          have z109 := V.Fr.size G106
          first | replace F_o := F_o.mb G106 hD_o | clear F_o | skip
          first | replace Fk2 := Fk2.mv1 G106 (by omega) | clear Fk2 | skip
          first | replace Fk9 := Fk9.mv1 G106 (by omega) | clear Fk9 | skip
          first | replace F24 := F24.ma G106 | clear F24 | skip
          first | replace Fk29 := Fk29.mv1 G106 (by omega) | clear Fk29 | skip
          replace HG := HG.n1 G106
          clear G106
          have Fk16 := Fs107; clear Fs107
          simp only [V.spliceL, V.cellsL] at Fk16
          refine V.run T_ok 1 rfl ?_
          refine V.nil ?_
          refine V.tN ?_
          refine V.ret ?_
          refine V.tR ?_
          refine V.done2 rfl (V.resV_cell T_ok Fk16 rfl rfl) (V.resV_tmp rfl) ?_
          first
            | rw [show rFinish d ep aw al c s = (d, 123) by simp only [rFinish, stR]; grind [ovE, rRecov]]
          exact ⟨a22, c23, (by first | rfl | simp only [List.length_set]), F24.re, HG⟩
         ·
          try replace g23_6 := V.dec g23_6
          try simp only [V.mk0, V.mk1, V.mk2, V.mk3] at g23_6
          refine V.run T_ok 1 rfl ?_
          refine V.yes rfl rfl rfl ?_
          refine V.loadO T_ok Fk2 rfl rfl rfl rfl rfl ?_
          refine V.run T_ok 4 rfl ?_
          refine V.split (j := 12) (t := 93) rfl rfl (fun g23_12 => ?_) (fun g23_12 => ?_)
          ·
           try replace g23_12 := V.dec g23_12
           try simp only [V.mk0, V.mk1, V.mk2, V.mk3] at g23_12
           refine V.run T_ok 6 rfl ?_
           refine V.nil ?_
           refine V.tN ?_
           refine V.condY rfl rfl ?_
           refine V.seq ?_
           refine V.region ?_
           refine V.loadO T_ok Fk29 rfl rfl rfl rfl rfl ?_
           refine V.storeO Fk16 rfl rfl rfl rfl sz27 rfl rfl rfl rfl ?_
           rintro w110 G111 z113 Fs112
           clear Fk16
           have z114 := V.Fr.size G111
           first | replace F_o := F_o.mb G111 hD_o | clear F_o | skip
           first | replace Fk2 := Fk2.mv1 G111 (by omega) | clear Fk2 | skip
           first | replace Fk9 := Fk9.mv1 G111 (by omega) | clear Fk9 | skip
           first | replace F24 := F24.ma G111 | clear F24 | skip
           first | replace Fk29 := Fk29.mv1 G111 (by omega) | clear Fk29 | skip
           replace HG := HG.n1 G111
           clear G111
           have Fk16 := Fs112; clear Fs112
           simp only [V.spliceL, V.cellsL] at Fk16
           refine V.run T_ok 1 rfl ?_
           refine V.nil ?_
           refine V.tN ?_
           refine V.ret ?_
           refine V.tR ?_
           refine V.done2 rfl (V.resV_cell T_ok Fk16 rfl rfl) (V.resV_tmp rfl) ?_
           first
             | rw [show rFinish d ep aw al c s = (d, 123) by simp only [rFinish, stR]; grind [ovE, rRecov]]
           exact ⟨a22, c23, (by first | rfl | simp only [List.length_set]), F24.re, HG⟩
          ·
           try replace g23_12 := V.dec g23_12
           try simp only [V.mk0, V.mk1, V.mk2, V.mk3] at g23_12
           refine V.run T_ok 1 rfl ?_
           refine V.yes rfl rfl rfl ?_
           refine V.loadO T_ok Fk2 rfl rfl rfl rfl rfl ?_
           refine V.yes rfl rfl rfl ?_
           refine V.loadO T_ok Fk9 rfl rfl rfl rfl rfl ?_
           refine V.yes rfl rfl rfl ?_
           refine V.step rfl rfl (V.neA_run rfl rfl rfl eqG24 (eqS24 _)) ?_
           refine V.run T_ok 2 rfl ?_
           refine V.nil ?_
           refine V.tN ?_
           refine V.condT rfl (fun h23 => ?_) (fun h23 => ?_)
           ·
            try replace h23 := V.dec h23
            try simp only [V.mk0, V.mk1, V.mk2, V.mk3] at h23
            refine V.seq ?_
            refine V.region ?_
            refine V.loadO T_ok Fk29 rfl rfl rfl rfl rfl ?_
            refine V.storeO Fk16 rfl rfl rfl rfl sz27 rfl rfl rfl rfl ?_
            rintro w115 G116 z118 Fs117
            clear Fk16
            have z119 := V.Fr.size G116
            first | replace F_o := F_o.mb G116 hD_o | clear F_o | skip
            first | replace Fk2 := Fk2.mv1 G116 (by omega) | clear Fk2 | skip
            first | replace Fk9 := Fk9.mv1 G116 (by omega) | clear Fk9 | skip
            first | replace F24 := F24.ma G116 | clear F24 | skip
            first | replace Fk29 := Fk29.mv1 G116 (by omega) | clear Fk29 | skip
            replace HG := HG.n1 G116
            clear G116
            have Fk16 := Fs117; clear Fs117
            simp only [V.spliceL, V.cellsL] at Fk16
            refine V.run T_ok 1 rfl ?_
            refine V.nil ?_
            refine V.tN ?_
            refine V.ret ?_
            refine V.tR ?_
            refine V.done2 rfl (V.resV_cell T_ok Fk16 rfl rfl) (V.resV_tmp rfl) ?_
            first
              | rw [show rFinish d ep aw al c s = (d, 123) by simp only [rFinish, stR]; grind [ovE, rRecov]]
            exact ⟨a22, c23, (by first | rfl | simp only [List.length_set]), F24.re, HG⟩
           ·
            try replace h23 := V.dec h23
            try simp only [V.mk0, V.mk1, V.mk2, V.mk3] at h23
            refine V.skip ?_
            refine V.tN ?_
            refine V.seq ?_
            refine V.region ?_
            refine V.loadO T_ok Fk2 rfl rfl rfl rfl rfl ?_
            refine V.run T_ok 1 rfl ?_
            refine V.loadO T_ok Fk9 rfl rfl rfl rfl rfl ?_
            refine V.run T_ok 1 rfl ?_
            refine V.call (rdecided_spec (ep := ep) (aw := aw) (al := al) (c := c) (d := d) F_o (fun k hk => by have := hD_o k hk; omega)) rfl rfl rfl ?_
            rintro _ w123 ⟨a120, c121, rfl, F122, G124⟩
            have z125 := V.Fr.size G124
            try replace F_o := F_o.gr G124
            try replace Fk2 := Fk2.gr G124
            try replace Fk9 := Fk9.gr G124
            try replace Fk16 := Fk16.gr G124
            try replace F24 := F24.gr G124
            try replace Fk29 := Fk29.gr G124
            replace HG := HG.grow G124
            clear G124
            refine V.storeO Fk16 rfl rfl rfl rfl sz27 rfl rfl rfl rfl ?_
            rintro w126 G127 z129 Fs128
            clear Fk16
            have z130 := V.Fr.size G127
            first | replace F_o := F_o.mb G127 hD_o | clear F_o | skip
            first | replace Fk2 := Fk2.mv1 G127 (by omega) | clear Fk2 | skip
            first | replace Fk9 := Fk9.mv1 G127 (by omega) | clear Fk9 | skip
            first | replace F24 := F24.ma G127 | clear F24 | skip
            first | replace Fk29 := Fk29.mv1 G127 (by omega) | clear Fk29 | skip
            first | replace F122 := F122.ma G127 | clear F122 | skip
            replace HG := HG.n1 G127
            clear G127
            have Fk16 := Fs128; clear Fs128
            simp only [V.spliceL, V.cellsL] at Fk16
            refine V.run T_ok 1 rfl ?_
            refine V.nil ?_
            refine V.tN ?_
            refine V.ret ?_
            refine V.done2 rfl (V.resV_cell T_ok Fk16 rfl rfl) (V.resV_tmp rfl) ?_
            first
              | rw [show rFinish d ep aw al c s = (decR d ep aw al c, 0) by simp only [rFinish, stR]; grind [ovE, rRecov]]
            exact ⟨a120, c121, (by first | rfl | simp only [List.length_set]), F122.re, HG⟩
        ·
         try replace g23_3 := V.dec g23_3
         try simp only [V.mk0, V.mk1, V.mk2, V.mk3] at g23_3
         refine V.run T_ok 15 rfl ?_
         refine V.nil ?_
         refine V.tN ?_
         refine V.condN rfl rfl ?_
         refine V.skip ?_
         refine V.tN ?_
         refine V.seq ?_
         refine V.region ?_
         refine V.loadO T_ok Fk2 rfl rfl rfl rfl rfl ?_
         refine V.run T_ok 1 rfl ?_
         refine V.loadO T_ok Fk9 rfl rfl rfl rfl rfl ?_
         refine V.run T_ok 1 rfl ?_
         refine V.call (rdecided_spec (ep := ep) (aw := aw) (al := al) (c := c) (d := d) F_o (fun k hk => by have := hD_o k hk; omega)) rfl rfl rfl ?_
         rintro _ w134 ⟨a131, c132, rfl, F133, G135⟩
         have z136 := V.Fr.size G135
         try replace F_o := F_o.gr G135
         try replace Fk2 := Fk2.gr G135
         try replace Fk9 := Fk9.gr G135
         try replace Fk16 := Fk16.gr G135
         try replace F24 := F24.gr G135
         try replace Fk29 := Fk29.gr G135
         replace HG := HG.grow G135
         clear G135
         refine V.storeO Fk16 rfl rfl rfl rfl sz27 rfl rfl rfl rfl ?_
         rintro w137 G138 z140 Fs139
         clear Fk16
         have z141 := V.Fr.size G138
         first | replace F_o := F_o.mb G138 hD_o | clear F_o | skip
         first | replace Fk2 := Fk2.mv1 G138 (by omega) | clear Fk2 | skip
         first | replace Fk9 := Fk9.mv1 G138 (by omega) | clear Fk9 | skip
         first | replace F24 := F24.ma G138 | clear F24 | skip
         first | replace Fk29 := Fk29.mv1 G138 (by omega) | clear Fk29 | skip
         first | replace F133 := F133.ma G138 | clear F133 | skip
         replace HG := HG.n1 G138
         clear G138
         have Fk16 := Fs139; clear Fs139
         simp only [V.spliceL, V.cellsL] at Fk16
         refine V.run T_ok 1 rfl ?_
         refine V.nil ?_
         refine V.tN ?_
         refine V.ret ?_
         refine V.done2 rfl (V.resV_cell T_ok Fk16 rfl rfl) (V.resV_tmp rfl) ?_
         first
           | rw [show rFinish d ep aw al c s = (decR d ep aw al c, 0) by simp only [rFinish, stR]; grind [ovE, rRecov]]
         exact ⟨a131, c132, (by first | rfl | simp only [List.length_set]), F133.re, HG⟩
  ·
   try replace g6_3 := V.dec g6_3
   try simp only [V.mk0, V.mk1, V.mk2, V.mk3] at g6_3
   refine V.run T_ok 1 rfl ?_
   refine V.yes rfl rfl rfl ?_
   refine V.loadO T_ok Fk2 rfl rfl rfl rfl rfl ?_
   refine V.run T_ok 3 rfl ?_
   refine V.nil ?_
   refine V.tN ?_
   refine V.seq ?_
   refine V.seq ?_
   refine V.region ?_
   refine V.run T_ok 2 rfl ?_
   refine V.andG T_ok 1 1 38 rfl rfl rfl rfl rfl rfl rfl rfl ?_
   refine V.nil ?_
   refine V.tN ?_
   refine V.condT rfl (fun h7 => ?_) (fun h7 => ?_)
   ·
    try replace h7 := V.dec h7
    try simp only [V.mk0, V.mk1, V.mk2, V.mk3] at h7
    refine V.seq ?_
    refine V.region ?_
    refine V.loadO T_ok Fk29 rfl rfl rfl rfl rfl ?_
    refine V.storeO Fk16 rfl rfl rfl rfl sz27 rfl rfl rfl rfl ?_
    rintro w142 G143 z145 Fs144
    clear Fk16
    have z146 := V.Fr.size G143
    first | replace F_o := F_o.mb G143 hD_o | clear F_o | skip
    first | replace Fk2 := Fk2.mv1 G143 (by omega) | clear Fk2 | skip
    first | replace Fk9 := Fk9.mv1 G143 (by omega) | clear Fk9 | skip
    first | replace F24 := F24.ma G143 | clear F24 | skip
    first | replace Fk29 := Fk29.mv1 G143 (by omega) | clear Fk29 | skip
    replace HG := HG.n1 G143
    clear G143
    have Fk16 := Fs144; clear Fs144
    simp only [V.spliceL, V.cellsL] at Fk16
    refine V.run T_ok 1 rfl ?_
    refine V.nil ?_
    refine V.tN ?_
    refine V.ret ?_
    refine V.tR ?_
    refine V.done2 rfl (V.resV_cell T_ok Fk16 rfl rfl) (V.resV_tmp rfl) ?_
    first
      | rw [show rFinish d ep aw al c s = (d, 0) by simp only [rFinish, stR]; grind [ovE, rRecov]]
    exact ⟨a22, c23, (by first | rfl | simp only [List.length_set]), F24.re, HG⟩
   ·
    try replace h7 := V.dec h7
    try simp only [V.mk0, V.mk1, V.mk2, V.mk3] at h7
    refine V.skip ?_
    refine V.tN ?_
    refine V.seq ?_
    refine V.seq ?_
    refine V.region ?_
    refine V.run T_ok 1 rfl ?_
    refine V.nil ?_
    refine V.tN ?_
    refine V.condT rfl (fun h9 => ?_) (fun h9 => ?_)
    ·
     try replace h9 := V.dec h9
     try simp only [V.mk0, V.mk1, V.mk2, V.mk3] at h9
     refine V.seq ?_
     refine V.seq ?_
     refine V.region ?_
     refine V.run T_ok 1 rfl ?_
     refine V.loadO T_ok Fk2 rfl rfl rfl rfl rfl ?_
     refine V.run T_ok 2 rfl ?_
     refine V.split (j := 3) (t := 46) rfl rfl (fun g10_3 => ?_) (fun g10_3 => ?_)
     ·
      try replace g10_3 := V.dec g10_3
      try simp only [V.mk0, V.mk1, V.mk2, V.mk3] at g10_3
      refine V.run T_ok 11 rfl ?_
      refine V.nil ?_
      refine V.tN ?_
      refine V.condY rfl rfl ?_
      refine V.seq ?_
      refine V.region ?_
      refine V.loadO T_ok Fk29 rfl rfl rfl rfl rfl ?_
      refine V.storeO Fk16 rfl rfl rfl rfl sz27 rfl rfl rfl rfl ?_
      rintro w147 G148 z150 Fs149
      clear Fk16
      have z151 := V.Fr.size G148
      first | replace F_o := F_o.mb G148 hD_o | clear F_o | skip
      first | replace Fk2 := Fk2.mv1 G148 (by omega) | clear Fk2 | skip
      first | replace Fk9 := Fk9.mv1 G148 (by omega) | clear Fk9 | skip
      first | replace F24 := F24.ma G148 | clear F24 | skip
      first | replace Fk29 := Fk29.mv1 G148 (by omega) | clear Fk29 | skip
      replace HG := HG.n1 G148
      clear G148
      have Fk16 := Fs149; clear Fs149
      simp only [V.spliceL, V.cellsL] at Fk16
      refine V.run T_ok 1 rfl ?_
      refine V.nil ?_
      refine V.tN ?_
      refine V.ret ?_
      refine V.tR ?_
      refine V.tR ?_
      refine V.done2 rfl (V.resV_cell T_ok Fk16 rfl rfl) (V.resV_tmp rfl) ?_
      first
        | rw [show rFinish d ep aw al c s = (d, 84) by simp only [rFinish, stR]; grind [ovE, rRecov]]
      exact ⟨a22, c23, (by first | rfl | simp only [List.length_set]), F24.re, HG⟩
     ·
      try replace g10_3 := V.dec g10_3
      try simp only [V.mk0, V.mk1, V.mk2, V.mk3] at g10_3
      refine V.run T_ok 1 rfl ?_
      refine V.yes rfl rfl rfl ?_
      refine V.loadO T_ok Fk2 rfl rfl rfl rfl rfl ?_
      refine V.run T_ok 4 rfl ?_
      refine V.split (j := 9) (t := 52) rfl rfl (fun g10_9 => ?_) (fun g10_9 => ?_)
      ·
       try replace g10_9 := V.dec g10_9
       try simp only [V.mk0, V.mk1, V.mk2, V.mk3] at g10_9
       refine V.run T_ok 5 rfl ?_
       refine V.nil ?_
       refine V.tN ?_
       refine V.condY rfl rfl ?_
       refine V.seq ?_
       refine V.region ?_
       refine V.loadO T_ok Fk29 rfl rfl rfl rfl rfl ?_
       refine V.storeO Fk16 rfl rfl rfl rfl sz27 rfl rfl rfl rfl ?_
       rintro w152 G153 z155 Fs154
       clear Fk16
       have z156 := V.Fr.size G153
       first | replace F_o := F_o.mb G153 hD_o | clear F_o | skip
       first | replace Fk2 := Fk2.mv1 G153 (by omega) | clear Fk2 | skip
       first | replace Fk9 := Fk9.mv1 G153 (by omega) | clear Fk9 | skip
       first | replace F24 := F24.ma G153 | clear F24 | skip
       first | replace Fk29 := Fk29.mv1 G153 (by omega) | clear Fk29 | skip
       replace HG := HG.n1 G153
       clear G153
       have Fk16 := Fs154; clear Fs154
       simp only [V.spliceL, V.cellsL] at Fk16
       refine V.run T_ok 1 rfl ?_
       refine V.nil ?_
       refine V.tN ?_
       refine V.ret ?_
       refine V.tR ?_
       refine V.tR ?_
       refine V.done2 rfl (V.resV_cell T_ok Fk16 rfl rfl) (V.resV_tmp rfl) ?_
       first
         | rw [show rFinish d ep aw al c s = (d, 84) by simp only [rFinish, stR]; grind [ovE, rRecov]]
       exact ⟨a22, c23, (by first | rfl | simp only [List.length_set]), F24.re, HG⟩
      ·
       try replace g10_9 := V.dec g10_9
       try simp only [V.mk0, V.mk1, V.mk2, V.mk3] at g10_9
       refine V.run T_ok 1 rfl ?_
       refine V.yes rfl rfl rfl ?_
       refine V.loadO T_ok Fk2 rfl rfl rfl rfl rfl ?_
       refine V.yes rfl rfl rfl ?_
       refine V.loadO T_ok Fk9 rfl rfl rfl rfl rfl ?_
       refine V.yes rfl rfl rfl ?_
       refine V.step rfl rfl (V.neA_run rfl rfl rfl eqG24 (eqS24 _)) ?_
       refine V.run T_ok 1 rfl ?_
       refine V.nil ?_
       refine V.tN ?_
       refine V.condT rfl (fun h10 => ?_) (fun h10 => ?_)
       ·
        try replace h10 := V.dec h10
        try simp only [V.mk0, V.mk1, V.mk2, V.mk3] at h10
        refine V.seq ?_
        refine V.region ?_
        refine V.loadO T_ok Fk29 rfl rfl rfl rfl rfl ?_
        refine V.storeO Fk16 rfl rfl rfl rfl sz27 rfl rfl rfl rfl ?_
        rintro w157 G158 z160 Fs159
        clear Fk16
        have z161 := V.Fr.size G158
        first | replace F_o := F_o.mb G158 hD_o | clear F_o | skip
        first | replace Fk2 := Fk2.mv1 G158 (by omega) | clear Fk2 | skip
        first | replace Fk9 := Fk9.mv1 G158 (by omega) | clear Fk9 | skip
        first | replace F24 := F24.ma G158 | clear F24 | skip
        first | replace Fk29 := Fk29.mv1 G158 (by omega) | clear Fk29 | skip
        replace HG := HG.n1 G158
        clear G158
        have Fk16 := Fs159; clear Fs159
        simp only [V.spliceL, V.cellsL] at Fk16
        refine V.run T_ok 1 rfl ?_
        refine V.nil ?_
        refine V.tN ?_
        refine V.ret ?_
        refine V.tR ?_
        refine V.tR ?_
        refine V.done2 rfl (V.resV_cell T_ok Fk16 rfl rfl) (V.resV_tmp rfl) ?_
        first
          | rw [show rFinish d ep aw al c s = (d, 84) by simp only [rFinish, stR]; grind [ovE, rRecov]]
        exact ⟨a22, c23, (by first | rfl | simp only [List.length_set]), F24.re, HG⟩
       ·
        try replace h10 := V.dec h10
        try simp only [V.mk0, V.mk1, V.mk2, V.mk3] at h10
        refine V.skip ?_
        refine V.tN ?_
        refine V.seq ?_
        refine V.region ?_
        refine V.loadO T_ok Fk2 rfl rfl rfl rfl rfl ?_
        refine V.run T_ok 1 rfl ?_
        refine V.loadO T_ok Fk9 rfl rfl rfl rfl rfl ?_
        refine V.run T_ok 1 rfl ?_
        refine V.call (rdecided_spec (ep := ep) (aw := aw) (al := al) (c := c) (d := d) F_o (fun k hk => by have := hD_o k hk; omega)) rfl rfl rfl ?_
        rintro _ w165 ⟨a162, c163, rfl, F164, G166⟩
        have z167 := V.Fr.size G166
        try replace F_o := F_o.gr G166
        try replace Fk2 := Fk2.gr G166
        try replace Fk9 := Fk9.gr G166
        try replace Fk16 := Fk16.gr G166
        try replace F24 := F24.gr G166
        try replace Fk29 := Fk29.gr G166
        replace HG := HG.grow G166
        clear G166
        refine V.storeO Fk16 rfl rfl rfl rfl sz27 rfl rfl rfl rfl ?_
        rintro w168 G169 z171 Fs170
        clear Fk16
        have z172 := V.Fr.size G169
        first | replace F_o := F_o.mb G169 hD_o | clear F_o | skip
        first | replace Fk2 := Fk2.mv1 G169 (by omega) | clear Fk2 | skip
        first | replace Fk9 := Fk9.mv1 G169 (by omega) | clear Fk9 | skip
        first | replace F24 := F24.ma G169 | clear F24 | skip
        first | replace Fk29 := Fk29.mv1 G169 (by omega) | clear Fk29 | skip
        first | replace F164 := F164.ma G169 | clear F164 | skip
        replace HG := HG.n1 G169
        clear G169
        have Fk16 := Fs170; clear Fs170
        simp only [V.spliceL, V.cellsL] at Fk16
        refine V.run T_ok 1 rfl ?_
        refine V.nil ?_
        refine V.tN ?_
        refine V.ret ?_
        refine V.tR ?_
        refine V.done2 rfl (V.resV_cell T_ok Fk16 rfl rfl) (V.resV_tmp rfl) ?_
        first
          | rw [show rFinish d ep aw al c s = (decR d ep aw al c, 0) by simp only [rFinish, stR]; grind [ovE, rRecov]]
        exact ⟨a162, c163, (by first | rfl | simp only [List.length_set]), F164.re, HG⟩
    ·
     try replace h9 := V.dec h9
     try simp only [V.mk0, V.mk1, V.mk2, V.mk3] at h9
     refine V.skip ?_
     refine V.tN ?_
     refine V.seq ?_
     refine V.seq ?_
     refine V.region ?_
     refine V.run T_ok 1 rfl ?_
     refine V.loadO T_ok Fk2 rfl rfl rfl rfl rfl ?_
     refine V.run T_ok 1 rfl ?_
     refine V.nil ?_
     refine V.tN ?_
     refine V.condT rfl (fun h13 => ?_) (fun h13 => ?_)
     ·
      try replace h13 := V.dec h13
      try simp only [V.mk0, V.mk1, V.mk2, V.mk3] at h13
      refine V.seq ?_
      refine V.seq ?_
      refine V.region ?_
      refine V.run T_ok 1 rfl ?_
      refine V.nil ?_
      refine V.tN ?_
      refine V.condT rfl (fun h14 => ?_) (fun h14 => ?_)
      ·
       try replace h14 := V.dec h14
       try simp only [V.mk0, V.mk1, V.mk2, V.mk3] at h14
       refine V.seq ?_
       refine V.region ?_
       refine V.loadO T_ok Fk29 rfl rfl rfl rfl rfl ?_
       refine V.storeO Fk16 rfl rfl rfl rfl sz27 rfl rfl rfl rfl ?_
       rintro w173 G174 z176 Fs175
       clear Fk16
       have z177 := V.Fr.size G174
       first | replace F_o := F_o.mb G174 hD_o | clear F_o | skip
       first | replace Fk2 := Fk2.mv1 G174 (by omega) | clear Fk2 | skip
       first | replace Fk9 := Fk9.mv1 G174 (by omega) | clear Fk9 | skip
       first | replace F24 := F24.ma G174 | clear F24 | skip
       first | replace Fk29 := Fk29.mv1 G174 (by omega) | clear Fk29 | skip
       replace HG := HG.n1 G174
       clear G174
       have Fk16 := Fs175; clear Fs175
       simp only [V.spliceL, V.cellsL] at Fk16
       refine V.run T_ok 1 rfl ?_
       refine V.nil ?_
       refine V.tN ?_
       refine V.ret ?_
       refine V.tR ?_
       refine V.tR ?_
       refine V.done2 rfl (V.resV_cell T_ok Fk16 rfl rfl) (V.resV_tmp rfl) ?_
       first
         | rw [show rFinish d ep aw al c s = (d, 0) by simp only [rFinish, stR]; grind [ovE, rRecov]]
       exact ⟨a22, c23, (by first | rfl | simp only [List.length_set]), F24.re, HG⟩
      ·
       try replace h14 := V.dec h14
       try simp only [V.mk0, V.mk1, V.mk2, V.mk3] at h14
       refine V.skip ?_
       refine V.tN ?_
       refine V.seq ?_
       refine V.region ?_
       refine V.loadO T_ok Fk29 rfl rfl rfl rfl rfl ?_
       refine V.storeO Fk16 rfl rfl rfl rfl sz27 rfl rfl rfl rfl ?_
       rintro w178 G179 z181 Fs180
       clear Fk16
       have z182 := V.Fr.size G179
       first | replace F_o := F_o.mb G179 hD_o | clear F_o | skip
       first | replace Fk2 := Fk2.mv1 G179 (by omega) | clear Fk2 | skip
       first | replace Fk9 := Fk9.mv1 G179 (by omega) | clear Fk9 | skip
       first | replace F24 := F24.ma G179 | clear F24 | skip
       first | replace Fk29 := Fk29.mv1 G179 (by omega) | clear Fk29 | skip
       replace HG := HG.n1 G179
       clear G179
       have Fk16 := Fs180; clear Fs180
       simp only [V.spliceL, V.cellsL] at Fk16
       refine V.run T_ok 1 rfl ?_
       refine V.nil ?_
       refine V.tN ?_
       refine V.ret ?_
       refine V.tR ?_
       refine V.done2 rfl (V.resV_cell T_ok Fk16 rfl rfl) (V.resV_tmp rfl) ?_
       first
         | rw [show rFinish d ep aw al c s = (d, 83) by simp only [rFinish, stR]; grind [ovE, rRecov]]
       exact ⟨a22, c23, (by first | rfl | simp only [List.length_set]), F24.re, HG⟩
     ·
      try replace h13 := V.dec h13
      try simp only [V.mk0, V.mk1, V.mk2, V.mk3] at h13
      refine V.skip ?_
      refine V.tN ?_
      refine V.seq ?_
      refine V.seq ?_
      refine V.region ?_
      refine V.run T_ok 1 rfl ?_
      refine V.loadO T_ok Fk2 rfl rfl rfl rfl rfl ?_
      refine V.run T_ok 1 rfl ?_
      refine V.nil ?_
      refine V.tN ?_
      refine V.condT rfl (fun h17 => ?_) (fun h17 => ?_)
      ·
       try replace h17 := V.dec h17
       try simp only [V.mk0, V.mk1, V.mk2, V.mk3] at h17
       refine V.seq ?_
       refine V.seq ?_
       refine V.region ?_
       refine V.run T_ok 1 rfl ?_
       refine V.nil ?_
       refine V.tN ?_
       refine V.condT rfl (fun h18 => ?_) (fun h18 => ?_)
       ·
        try replace h18 := V.dec h18
        try simp only [V.mk0, V.mk1, V.mk2, V.mk3] at h18
        refine V.seq ?_
        refine V.region ?_
        refine V.loadO T_ok Fk29 rfl rfl rfl rfl rfl ?_
        refine V.storeO Fk16 rfl rfl rfl rfl sz27 rfl rfl rfl rfl ?_
        rintro w183 G184 z186 Fs185
        clear Fk16
        have z187 := V.Fr.size G184
        first | replace F_o := F_o.mb G184 hD_o | clear F_o | skip
        first | replace Fk2 := Fk2.mv1 G184 (by omega) | clear Fk2 | skip
        first | replace Fk9 := Fk9.mv1 G184 (by omega) | clear Fk9 | skip
        first | replace F24 := F24.ma G184 | clear F24 | skip
        first | replace Fk29 := Fk29.mv1 G184 (by omega) | clear Fk29 | skip
        replace HG := HG.n1 G184
        clear G184
        have Fk16 := Fs185; clear Fs185
        simp only [V.spliceL, V.cellsL] at Fk16
        refine V.run T_ok 1 rfl ?_
        refine V.nil ?_
        refine V.tN ?_
        refine V.ret ?_
        refine V.tR ?_
        refine V.tR ?_
        refine V.done2 rfl (V.resV_cell T_ok Fk16 rfl rfl) (V.resV_tmp rfl) ?_
        first
          | rw [show rFinish d ep aw al c s = (d, 122) by simp only [rFinish, stR]; grind [ovE, rRecov]]
        exact ⟨a22, c23, (by first | rfl | simp only [List.length_set]), F24.re, HG⟩
       ·
        try replace h18 := V.dec h18
        try simp only [V.mk0, V.mk1, V.mk2, V.mk3] at h18
        refine V.skip ?_
        refine V.tN ?_
        refine V.seq ?_
        refine V.region ?_
        refine V.loadO T_ok Fk29 rfl rfl rfl rfl rfl ?_
        refine V.storeO Fk16 rfl rfl rfl rfl sz27 rfl rfl rfl rfl ?_
        rintro w188 G189 z191 Fs190
        clear Fk16
        have z192 := V.Fr.size G189
        first | replace F_o := F_o.mb G189 hD_o | clear F_o | skip
        first | replace Fk2 := Fk2.mv1 G189 (by omega) | clear Fk2 | skip
        first | replace Fk9 := Fk9.mv1 G189 (by omega) | clear Fk9 | skip
        first | replace F24 := F24.ma G189 | clear F24 | skip
        first | replace Fk29 := Fk29.mv1 G189 (by omega) | clear Fk29 | skip
        replace HG := HG.n1 G189
        clear G189
        have Fk16 := Fs190; clear Fs190
        simp only [V.spliceL, V.cellsL] at Fk16
        refine V.run T_ok 1 rfl ?_
        refine V.nil ?_
        refine V.tN ?_
        refine V.ret ?_
        refine V.tR ?_
        refine V.done2 rfl (V.resV_cell T_ok Fk16 rfl rfl) (V.resV_tmp rfl) ?_
        first
          | rw [show rFinish d ep aw al c s = (d, 0) by simp only [rFinish, stR]; grind [ovE, rRecov]]
        exact ⟨a22, c23, (by first | rfl | simp only [List.length_set]), F24.re, HG⟩
      ·
       try replace h17 := V.dec h17
       try simp only [V.mk0, V.mk1, V.mk2, V.mk3] at h17
       refine V.skip ?_
       refine V.tN ?_
       refine V.seq ?_
       refine V.seq ?_
       refine V.region ?_
       refine V.run T_ok 1 rfl ?_
       refine V.loadO T_ok Fk2 rfl rfl rfl rfl rfl ?_
       refine V.run T_ok 2 rfl ?_
       refine V.nil ?_
       refine V.tN ?_
       refine V.condT rfl (fun h21 => ?_) (fun h21 => ?_)
       ·
        try replace h21 := V.dec h21
        try simp only [V.mk0, V.mk1, V.mk2, V.mk3] at h21
        refine V.seq ?_
        refine V.region ?_
        refine V.loadO T_ok Fk29 rfl rfl rfl rfl rfl ?_
        refine V.storeO Fk16 rfl rfl rfl rfl sz27 rfl rfl rfl rfl ?_
        rintro w193 G194 z196 Fs195
        clear Fk16
        have z197 := V.Fr.size G194
        first | replace F_o := F_o.mb G194 hD_o | clear F_o | skip
        first | replace Fk2 := Fk2.mv1 G194 (by omega) | clear Fk2 | skip
        first | replace Fk9 := Fk9.mv1 G194 (by omega) | clear Fk9 | skip
        first | replace F24 := F24.ma G194 | clear F24 | skip
        first | replace Fk29 := Fk29.mv1 G194 (by omega) | clear Fk29 | skip
        replace HG := HG.n1 G194
        clear G194
        have Fk16 := Fs195; clear Fs195
        simp only [V.spliceL, V.cellsL] at Fk16
        refine V.run T_ok 1 rfl ?_
        refine V.nil ?_
        refine V.tN ?_
        refine V.ret ?_
        refine V.tR ?_
        refine V.done2 rfl (V.resV_cell T_ok Fk16 rfl rfl) (V.resV_tmp rfl) ?_
        first
          | rw [show rFinish d ep aw al c s = (d, 84) by simp only [rFinish, stR]; grind [ovE, rRecov]]
        exact ⟨a22, c23, (by first | rfl | simp only [List.length_set]), F24.re, HG⟩
       ·
        try replace h21 := V.dec h21
        try simp only [V.mk0, V.mk1, V.mk2, V.mk3] at h21
        refine V.skip ?_
        refine V.tN ?_
        refine V.seq ?_
        refine V.seq ?_
        refine V.region ?_
        refine V.run T_ok 1 rfl ?_
        refine V.loadO T_ok Fk2 rfl rfl rfl rfl rfl ?_
        refine V.run T_ok 2 rfl ?_
        refine V.split (j := 3) (t := 84) rfl rfl (fun g23_3 => ?_) (fun g23_3 => ?_)
        ·
         try replace g23_3 := V.dec g23_3
         try simp only [V.mk0, V.mk1, V.mk2, V.mk3] at g23_3
         refine V.run T_ok 3 rfl ?_
         refine V.split (j := 6) (t := 87) rfl rfl (fun g23_6 => ?_) (fun g23_6 => ?_)
         ·
          try replace g23_6 := V.dec g23_6
          try simp only [V.mk0, V.mk1, V.mk2, V.mk3] at g23_6
          refine V.run T_ok 12 rfl ?_
          refine V.nil ?_
          refine V.tN ?_
          refine V.condY rfl rfl ?_
          refine V.seq ?_
          refine V.region ?_
          refine V.loadO T_ok Fk29 rfl rfl rfl rfl rfl ?_
          refine V.storeO Fk16 rfl rfl rfl rfl sz27 rfl rfl rfl rfl ?_
          rintro w198 G199 z201 Fs200
          clear Fk16
          have z202 := V.Fr.size G199
          first | replace F_o := F_o.mb G199 hD_o | clear F_o | skip
          first | replace Fk2 := Fk2.mv1 G199 (by omega) | clear Fk2 | skip
          first | replace Fk9 := Fk9.mv1 G199 (by omega) | clear Fk9 | skip
          first | replace F24 := F24.ma G199 | clear F24 | skip
          first | replace Fk29 := Fk29.mv1 G199 (by omega) | clear Fk29 | skip
          replace HG := HG.n1 G199
          clear G199
          have Fk16 := Fs200; clear Fs200
          simp only [V.spliceL, V.cellsL] at Fk16
          refine V.run T_ok 1 rfl ?_
          refine V.nil ?_
          refine V.tN ?_
          refine V.ret ?_
          refine V.tR ?_
          refine V.done2 rfl (V.resV_cell T_ok Fk16 rfl rfl) (V.resV_tmp rfl) ?_
          first
            | rw [show rFinish d ep aw al c s = (d, 123) by simp only [rFinish, stR]; grind [ovE, rRecov]]
          exact ⟨a22, c23, (by first | rfl | simp only [List.length_set]), F24.re, HG⟩
         ·
          try replace g23_6 := V.dec g23_6
          try simp only [V.mk0, V.mk1, V.mk2, V.mk3] at g23_6
          refine V.run T_ok 1 rfl ?_
          refine V.yes rfl rfl rfl ?_
          refine V.loadO T_ok Fk2 rfl rfl rfl rfl rfl ?_
          refine V.run T_ok 4 rfl ?_
          refine V.split (j := 12) (t := 93) rfl rfl (fun g23_12 => ?_) (fun g23_12 => ?_)
          ·
           try replace g23_12 := V.dec g23_12
           try simp only [V.mk0, V.mk1, V.mk2, V.mk3] at g23_12
           refine V.run T_ok 6 rfl ?_
           refine V.nil ?_
           refine V.tN ?_
           refine V.condY rfl rfl ?_
           refine V.seq ?_
           refine V.region ?_
           refine V.loadO T_ok Fk29 rfl rfl rfl rfl rfl ?_
           refine V.storeO Fk16 rfl rfl rfl rfl sz27 rfl rfl rfl rfl ?_
           rintro w203 G204 z206 Fs205
           clear Fk16
           have z207 := V.Fr.size G204
           first | replace F_o := F_o.mb G204 hD_o | clear F_o | skip
           first | replace Fk2 := Fk2.mv1 G204 (by omega) | clear Fk2 | skip
           first | replace Fk9 := Fk9.mv1 G204 (by omega) | clear Fk9 | skip
           first | replace F24 := F24.ma G204 | clear F24 | skip
           first | replace Fk29 := Fk29.mv1 G204 (by omega) | clear Fk29 | skip
           replace HG := HG.n1 G204
           clear G204
           have Fk16 := Fs205; clear Fs205
           simp only [V.spliceL, V.cellsL] at Fk16
           refine V.run T_ok 1 rfl ?_
           refine V.nil ?_
           refine V.tN ?_
           refine V.ret ?_
           refine V.tR ?_
           refine V.done2 rfl (V.resV_cell T_ok Fk16 rfl rfl) (V.resV_tmp rfl) ?_
           first
             | rw [show rFinish d ep aw al c s = (d, 123) by simp only [rFinish, stR]; grind [ovE, rRecov]]
           exact ⟨a22, c23, (by first | rfl | simp only [List.length_set]), F24.re, HG⟩
          ·
           try replace g23_12 := V.dec g23_12
           try simp only [V.mk0, V.mk1, V.mk2, V.mk3] at g23_12
           refine V.run T_ok 1 rfl ?_
           refine V.yes rfl rfl rfl ?_
           refine V.loadO T_ok Fk2 rfl rfl rfl rfl rfl ?_
           refine V.yes rfl rfl rfl ?_
           refine V.loadO T_ok Fk9 rfl rfl rfl rfl rfl ?_
           refine V.yes rfl rfl rfl ?_
           refine V.step rfl rfl (V.neA_run rfl rfl rfl eqG24 (eqS24 _)) ?_
           refine V.run T_ok 2 rfl ?_
           refine V.nil ?_
           refine V.tN ?_
           refine V.condT rfl (fun h23 => ?_) (fun h23 => ?_)
           ·
            try replace h23 := V.dec h23
            try simp only [V.mk0, V.mk1, V.mk2, V.mk3] at h23
            refine V.seq ?_
            refine V.region ?_
            refine V.loadO T_ok Fk29 rfl rfl rfl rfl rfl ?_
            refine V.storeO Fk16 rfl rfl rfl rfl sz27 rfl rfl rfl rfl ?_
            rintro w208 G209 z211 Fs210
            clear Fk16
            have z212 := V.Fr.size G209
            first | replace F_o := F_o.mb G209 hD_o | clear F_o | skip
            first | replace Fk2 := Fk2.mv1 G209 (by omega) | clear Fk2 | skip
            first | replace Fk9 := Fk9.mv1 G209 (by omega) | clear Fk9 | skip
            first | replace F24 := F24.ma G209 | clear F24 | skip
            first | replace Fk29 := Fk29.mv1 G209 (by omega) | clear Fk29 | skip
            replace HG := HG.n1 G209
            clear G209
            have Fk16 := Fs210; clear Fs210
            simp only [V.spliceL, V.cellsL] at Fk16
            refine V.run T_ok 1 rfl ?_
            refine V.nil ?_
            refine V.tN ?_
            refine V.ret ?_
            refine V.tR ?_
            refine V.done2 rfl (V.resV_cell T_ok Fk16 rfl rfl) (V.resV_tmp rfl) ?_
            first
              | rw [show rFinish d ep aw al c s = (d, 123) by simp only [rFinish, stR]; grind [ovE, rRecov]]
            exact ⟨a22, c23, (by first | rfl | simp only [List.length_set]), F24.re, HG⟩
           ·
            try replace h23 := V.dec h23
            try simp only [V.mk0, V.mk1, V.mk2, V.mk3] at h23
            refine V.skip ?_
            refine V.tN ?_
            refine V.seq ?_
            refine V.region ?_
            refine V.loadO T_ok Fk2 rfl rfl rfl rfl rfl ?_
            refine V.run T_ok 1 rfl ?_
            refine V.loadO T_ok Fk9 rfl rfl rfl rfl rfl ?_
            refine V.run T_ok 1 rfl ?_
            refine V.call (rdecided_spec (ep := ep) (aw := aw) (al := al) (c := c) (d := d) F_o (fun k hk => by have := hD_o k hk; omega)) rfl rfl rfl ?_
            rintro _ w216 ⟨a213, c214, rfl, F215, G217⟩
            have z218 := V.Fr.size G217
            try replace F_o := F_o.gr G217
            try replace Fk2 := Fk2.gr G217
            try replace Fk9 := Fk9.gr G217
            try replace Fk16 := Fk16.gr G217
            try replace F24 := F24.gr G217
            try replace Fk29 := Fk29.gr G217
            replace HG := HG.grow G217
            clear G217
            refine V.storeO Fk16 rfl rfl rfl rfl sz27 rfl rfl rfl rfl ?_
            rintro w219 G220 z222 Fs221
            clear Fk16
            have z223 := V.Fr.size G220
            first | replace F_o := F_o.mb G220 hD_o | clear F_o | skip
            first | replace Fk2 := Fk2.mv1 G220 (by omega) | clear Fk2 | skip
            first | replace Fk9 := Fk9.mv1 G220 (by omega) | clear Fk9 | skip
            first | replace F24 := F24.ma G220 | clear F24 | skip
            first | replace Fk29 := Fk29.mv1 G220 (by omega) | clear Fk29 | skip
            first | replace F215 := F215.ma G220 | clear F215 | skip
            replace HG := HG.n1 G220
            clear G220
            have Fk16 := Fs221; clear Fs221
            simp only [V.spliceL, V.cellsL] at Fk16
            refine V.run T_ok 1 rfl ?_
            refine V.nil ?_
            refine V.tN ?_
            refine V.ret ?_
            refine V.done2 rfl (V.resV_cell T_ok Fk16 rfl rfl) (V.resV_tmp rfl) ?_
            first
              | rw [show rFinish d ep aw al c s = (decR d ep aw al c, 0) by simp only [rFinish, stR]; grind [ovE, rRecov]]
            exact ⟨a213, c214, (by first | rfl | simp only [List.length_set]), F215.re, HG⟩
        ·
         try replace g23_3 := V.dec g23_3
         try simp only [V.mk0, V.mk1, V.mk2, V.mk3] at g23_3
         refine V.run T_ok 15 rfl ?_
         refine V.nil ?_
         refine V.tN ?_
         refine V.condN rfl rfl ?_
         refine V.skip ?_
         refine V.tN ?_
         refine V.seq ?_
         refine V.region ?_
         refine V.loadO T_ok Fk2 rfl rfl rfl rfl rfl ?_
         refine V.run T_ok 1 rfl ?_
         refine V.loadO T_ok Fk9 rfl rfl rfl rfl rfl ?_
         refine V.run T_ok 1 rfl ?_
         refine V.call (rdecided_spec (ep := ep) (aw := aw) (al := al) (c := c) (d := d) F_o (fun k hk => by have := hD_o k hk; omega)) rfl rfl rfl ?_
         rintro _ w227 ⟨a224, c225, rfl, F226, G228⟩
         have z229 := V.Fr.size G228
         try replace F_o := F_o.gr G228
         try replace Fk2 := Fk2.gr G228
         try replace Fk9 := Fk9.gr G228
         try replace Fk16 := Fk16.gr G228
         try replace F24 := F24.gr G228
         try replace Fk29 := Fk29.gr G228
         replace HG := HG.grow G228
         clear G228
         refine V.storeO Fk16 rfl rfl rfl rfl sz27 rfl rfl rfl rfl ?_
         rintro w230 G231 z233 Fs232
         clear Fk16
         have z234 := V.Fr.size G231
         first | replace F_o := F_o.mb G231 hD_o | clear F_o | skip
         first | replace Fk2 := Fk2.mv1 G231 (by omega) | clear Fk2 | skip
         first | replace Fk9 := Fk9.mv1 G231 (by omega) | clear Fk9 | skip
         first | replace F24 := F24.ma G231 | clear F24 | skip
         first | replace Fk29 := Fk29.mv1 G231 (by omega) | clear Fk29 | skip
         first | replace F226 := F226.ma G231 | clear F226 | skip
         replace HG := HG.n1 G231
         clear G231
         have Fk16 := Fs232; clear Fs232
         simp only [V.spliceL, V.cellsL] at Fk16
         refine V.run T_ok 1 rfl ?_
         refine V.nil ?_
         refine V.tN ?_
         refine V.ret ?_
         refine V.done2 rfl (V.resV_cell T_ok Fk16 rfl rfl) (V.resV_tmp rfl) ?_
         first
           | rw [show rFinish d ep aw al c s = (decR d ep aw al c, 0) by simp only [rFinish, stR]; grind [ovE, rRecov]]
         exact ⟨a224, c225, (by first | rfl | simp only [List.length_set]), F226.re, HG⟩

set_option maxHeartbeats 4000000 in
set_option maxRecDepth 10000 in
theorem push_spec {w : World} {d : RecV} {D_o : Nat → Prop} {c_o : Nat} {a_o : Option Addr} (F_o : Sl V.Cod.write w D_o a_o c_o d.ws) (hD_o : ∀ k, D_o k → k < w.heap.size) {mi : Int} {me : Int} {an : ByteArray} {sw : Int} {sl : Int} {nw : Int} {nl : Int} {pr : Int} (hl : d.ws.length ≤ 5864062014805) :
    Meets Try.prog 18 [.agg #[.int .i64 d.id, .int .i64 d.ep, .int .i64 d.st, .int .i64 d.aw, .int .i64 d.al, .int .i64 d.bw, .int .i64 d.bl, .slice a_o d.ws.length c_o], .agg #[.int .i64 mi, .int .i64 me, .string an, .int .i64 sw, .int .i64 sl], .agg #[.int .i64 nw, .int .i64 nl], .int .i64 pr] w fun r w' => ∃ (ra27 : Option Addr) (rc27 : Nat), r = .tuple #[.agg #[.int .i64 ((rPush d mi me sw sl nw nl pr).1.id), .int .i64 ((rPush d mi me sw sl nw nl pr).1.ep), .int .i64 ((rPush d mi me sw sl nw nl pr).1.st), .int .i64 ((rPush d mi me sw sl nw nl pr).1.aw), .int .i64 ((rPush d mi me sw sl nw nl pr).1.al), .int .i64 ((rPush d mi me sw sl nw nl pr).1.bw), .int .i64 ((rPush d mi me sw sl nw nl pr).1.bl), .slice ra27 ((rPush d mi me sw sl nw nl pr).1.ws).length rc27], .int .i64 ((rPush d mi me sw sl nw nl pr).2)] ∧ Sl V.Cod.write w' (V.In w.heap.size w'.heap.size) ra27 rc27 ((rPush d mi me sw sl nw nl pr).1.ws) ∧ Gr w w' := by
 have HG := V.Fr.refl [] w
 refine V.enter (n := 68) Try.func18 rfl rfl (by decide) rfl ?_
 refine V.seq ?_
 refine V.region ?_
 refine V.box rfl rfl rfl rfl ?_
 rintro k1 w3 s5 s6 G4 Fk2
 have z7 := V.Fr.size G4
 try replace F_o := F_o.gr G4
 replace HG := HG.grow G4
 clear G4
 try simp only [V.cellsL, V.spliceL] at Fk2
 refine V.box rfl rfl rfl rfl ?_
 rintro k8 w10 s12 s13 G11 Fk9
 have z14 := V.Fr.size G11
 try replace F_o := F_o.gr G11
 try replace Fk2 := Fk2.gr G11
 replace HG := HG.grow G11
 clear G11
 try simp only [V.cellsL, V.spliceL] at Fk9
 refine V.box rfl rfl rfl rfl ?_
 rintro k15 w17 s19 s20 G18 Fk16
 have z21 := V.Fr.size G18
 try replace F_o := F_o.gr G18
 try replace Fk2 := Fk2.gr G18
 try replace Fk9 := Fk9.gr G18
 replace HG := HG.grow G18
 clear G18
 try simp only [V.cellsL, V.spliceL] at Fk16
 refine V.alloc zero27 rfl rfl rfl ?_
 rintro k22 w24 s26 s27 G25 Fk23
 have z28 := V.Fr.size G25
 try replace F_o := F_o.gr G25
 try replace Fk2 := Fk2.gr G25
 try replace Fk9 := Fk9.gr G25
 try replace Fk16 := Fk16.gr G25
 replace HG := HG.grow G25
 clear G25
 try simp only [V.cellsL, V.spliceL] at Fk23
 refine V.run T_ok 1 rfl ?_
 refine V.nil ?_
 refine V.tN ?_
 refine V.seq ?_
 refine V.region ?_
 refine V.loadO T_ok Fk2 rfl rfl rfl rfl rfl ?_
 refine V.call (copied_spec (d := d) F_o (fun k hk => by have := hD_o k hk; omega) (by first | assumption | omega | decide)) rfl rfl rfl ?_
 rintro _ w32 ⟨a29, c30, rfl, F31, G33⟩
 have z34 := V.Fr.size G33
 try replace F_o := F_o.gr G33
 try replace Fk2 := Fk2.gr G33
 try replace Fk9 := Fk9.gr G33
 try replace Fk16 := Fk16.gr G33
 try replace Fk23 := Fk23.gr G33
 replace HG := HG.grow G33
 clear G33
 refine V.storeO Fk2 rfl rfl rfl rfl sz27 rfl rfl rfl rfl ?_
 rintro w35 G36 z38 Fs37
 clear Fk2
 have z39 := V.Fr.size G36
 first | replace F_o := F_o.mb G36 hD_o | clear F_o | skip
 first | replace Fk9 := Fk9.mv1 G36 (by omega) | clear Fk9 | skip
 first | replace Fk16 := Fk16.mv1 G36 (by omega) | clear Fk16 | skip
 first | replace Fk23 := Fk23.mv1 G36 (by omega) | clear Fk23 | skip
 first | replace F31 := F31.ma G36 | clear F31 | skip
 replace HG := HG.n1 G36
 clear G36
 have Fk2 := Fs37; clear Fs37
 simp only [V.spliceL, V.cellsL] at Fk2
 refine V.nil ?_
 refine V.tN ?_
 refine V.seq ?_
 refine V.seq ?_
 refine V.region ?_
 refine V.run T_ok 1 rfl ?_
 refine V.loadO T_ok Fk9 rfl rfl rfl rfl rfl ?_
 refine V.call (number_ok (n := me)) rfl rfl rfl ?_
 rintro _ w35_ ⟨rfl, rfl⟩
 refine V.run T_ok 2 rfl ?_
 refine V.split (j := 4) (t := 17) rfl rfl (fun g2_4 => ?_) (fun g2_4 => ?_)
 ·
  try replace g2_4 := V.dec g2_4
  try simp only [V.mk0, V.mk1, V.mk2, V.mk3] at g2_4
  refine V.run T_ok 10 rfl ?_
  refine V.nil ?_
  refine V.tN ?_
  refine V.condY rfl rfl ?_
  refine V.seq ?_
  refine V.region ?_
  refine V.loadO T_ok Fk2 rfl rfl rfl rfl rfl ?_
  refine V.storeO Fk23 rfl rfl rfl rfl sz27 rfl rfl rfl rfl ?_
  rintro w41 G42 z44 Fs43
  clear Fk23
  have z45 := V.Fr.size G42
  first | replace F_o := F_o.mb G42 hD_o | clear F_o | skip
  first | replace Fk9 := Fk9.mv1 G42 (by omega) | clear Fk9 | skip
  first | replace Fk16 := Fk16.mv1 G42 (by omega) | clear Fk16 | skip
  first | replace F31 := F31.ma G42 | clear F31 | skip
  first | replace Fk2 := Fk2.mv1 G42 (by omega) | clear Fk2 | skip
  replace HG := HG.n1 G42
  clear G42
  have Fk23 := Fs43; clear Fs43
  simp only [V.spliceL, V.cellsL] at Fk23
  refine V.run T_ok 1 rfl ?_
  refine V.nil ?_
  refine V.tN ?_
  refine V.ret ?_
  refine V.tR ?_
  refine V.done2 rfl (V.resV_cell T_ok Fk23 rfl rfl) (V.resV_tmp rfl) ?_
  first
    | rw [show rPush d mi me sw sl nw nl pr = (d, 1) by simp only [rPush, stR]; grind [decR]]
  exact ⟨a29, c30, (by first | rfl | simp only [List.length_set]), F31.re, HG⟩
 ·
  try replace g2_4 := V.dec g2_4
  try simp only [V.mk0, V.mk1, V.mk2, V.mk3] at g2_4
  refine V.yes rfl rfl rfl ?_
  refine V.loadO T_ok Fk16 rfl rfl rfl rfl rfl ?_
  refine V.yes rfl rfl rfl ?_
  refine V.call (right_spec (a := nw) (b := nl)) rfl rfl rfl ?_
  rintro _ w46 ⟨rfl, G47⟩
  have z48 := V.Fr.size G47
  try replace F_o := F_o.gr G47
  try replace Fk9 := Fk9.gr G47
  try replace Fk16 := Fk16.gr G47
  try replace Fk23 := Fk23.gr G47
  try replace F31 := F31.gr G47
  try replace Fk2 := Fk2.gr G47
  replace HG := HG.grow G47
  clear G47
  refine V.run T_ok 3 rfl ?_
  refine V.split (j := 9) (t := 22) rfl rfl (fun g2_9 => ?_) (fun g2_9 => ?_)
  ·
   try replace g2_9 := V.dec g2_9
   try simp only [V.mk0, V.mk1, V.mk2, V.mk3] at g2_9
   refine V.run T_ok 5 rfl ?_
   refine V.nil ?_
   refine V.tN ?_
   refine V.condY rfl rfl ?_
   refine V.seq ?_
   refine V.region ?_
   refine V.loadO T_ok Fk2 rfl rfl rfl rfl rfl ?_
   refine V.storeO Fk23 rfl rfl rfl rfl sz27 rfl rfl rfl rfl ?_
   rintro w49 G50 z52 Fs51
   clear Fk23
   have z53 := V.Fr.size G50
   first | replace F_o := F_o.mb G50 hD_o | clear F_o | skip
   first | replace Fk9 := Fk9.mv1 G50 (by omega) | clear Fk9 | skip
   first | replace Fk16 := Fk16.mv1 G50 (by omega) | clear Fk16 | skip
   first | replace F31 := F31.ma G50 | clear F31 | skip
   first | replace Fk2 := Fk2.mv1 G50 (by omega) | clear Fk2 | skip
   replace HG := HG.n1 G50
   clear G50
   have Fk23 := Fs51; clear Fs51
   simp only [V.spliceL, V.cellsL] at Fk23
   refine V.run T_ok 1 rfl ?_
   refine V.nil ?_
   refine V.tN ?_
   refine V.ret ?_
   refine V.tR ?_
   refine V.done2 rfl (V.resV_cell T_ok Fk23 rfl rfl) (V.resV_tmp rfl) ?_
   first
     | rw [show rPush d mi me sw sl nw nl pr = (d, 1) by simp only [rPush, stR]; grind [decR]]
   exact ⟨a29, c30, (by first | rfl | simp only [List.length_set]), F31.re, HG⟩
  ·
   try replace g2_9 := V.dec g2_9
   try simp only [V.mk0, V.mk1, V.mk2, V.mk3] at g2_9
   refine V.run T_ok 1 rfl ?_
   refine V.yes rfl rfl rfl ?_
   refine V.loadO T_ok Fk9 rfl rfl rfl rfl rfl ?_
   refine V.yes rfl rfl rfl ?_
   refine V.call (right_spec (a := sw) (b := sl)) rfl rfl rfl ?_
   rintro _ w54 ⟨rfl, G55⟩
   have z56 := V.Fr.size G55
   try replace F_o := F_o.gr G55
   try replace Fk9 := Fk9.gr G55
   try replace Fk16 := Fk16.gr G55
   try replace Fk23 := Fk23.gr G55
   try replace F31 := F31.gr G55
   try replace Fk2 := Fk2.gr G55
   replace HG := HG.grow G55
   clear G55
   refine V.run T_ok 2 rfl ?_
   refine V.nil ?_
   refine V.tN ?_
   refine V.condT rfl (fun h2 => ?_) (fun h2 => ?_)
   ·
    try replace h2 := V.dec h2
    try simp only [V.mk0, V.mk1, V.mk2, V.mk3] at h2
    refine V.seq ?_
    refine V.region ?_
    refine V.loadO T_ok Fk2 rfl rfl rfl rfl rfl ?_
    refine V.storeO Fk23 rfl rfl rfl rfl sz27 rfl rfl rfl rfl ?_
    rintro w57 G58 z60 Fs59
    clear Fk23
    have z61 := V.Fr.size G58
    first | replace F_o := F_o.mb G58 hD_o | clear F_o | skip
    first | replace Fk9 := Fk9.mv1 G58 (by omega) | clear Fk9 | skip
    first | replace Fk16 := Fk16.mv1 G58 (by omega) | clear Fk16 | skip
    first | replace F31 := F31.ma G58 | clear F31 | skip
    first | replace Fk2 := Fk2.mv1 G58 (by omega) | clear Fk2 | skip
    replace HG := HG.n1 G58
    clear G58
    have Fk23 := Fs59; clear Fs59
    simp only [V.spliceL, V.cellsL] at Fk23
    refine V.run T_ok 1 rfl ?_
    refine V.nil ?_
    refine V.tN ?_
    refine V.ret ?_
    refine V.tR ?_
    refine V.done2 rfl (V.resV_cell T_ok Fk23 rfl rfl) (V.resV_tmp rfl) ?_
    first
      | rw [show rPush d mi me sw sl nw nl pr = (d, 1) by simp only [rPush, stR]; grind [decR]]
    exact ⟨a29, c30, (by first | rfl | simp only [List.length_set]), F31.re, HG⟩
   ·
    try replace h2 := V.dec h2
    try simp only [V.mk0, V.mk1, V.mk2, V.mk3] at h2
    refine V.skip ?_
    refine V.tN ?_
    refine V.seq ?_
    refine V.region ?_
    refine V.run T_ok 1 rfl ?_
    refine V.loadO T_ok Fk2 rfl rfl rfl rfl rfl ?_
    refine V.alloc zero24 rfl rfl rfl ?_
    rintro k62 w64 s66 s67 G65 Fk63
    have z68 := V.Fr.size G65
    try replace F_o := F_o.gr G65
    try replace Fk9 := Fk9.gr G65
    try replace Fk16 := Fk16.gr G65
    try replace Fk23 := Fk23.gr G65
    try replace F31 := F31.gr G65
    try replace Fk2 := Fk2.gr G65
    replace HG := HG.grow G65
    clear G65
    try simp only [V.cellsL, V.spliceL] at Fk63
    refine V.storeO Fk63 rfl rfl rfl rfl sz24 rfl rfl rfl rfl ?_
    rintro w69 G70 z72 Fs71
    clear Fk63
    have z73 := V.Fr.size G70
    first | replace F_o := F_o.mb G70 hD_o | clear F_o | skip
    first | replace Fk9 := Fk9.mv1 G70 (by omega) | clear Fk9 | skip
    first | replace Fk16 := Fk16.mv1 G70 (by omega) | clear Fk16 | skip
    first | replace Fk23 := Fk23.mv1 G70 (by omega) | clear Fk23 | skip
    first | replace F31 := F31.ma G70 | clear F31 | skip
    first | replace Fk2 := Fk2.mv1 G70 (by omega) | clear Fk2 | skip
    replace HG := HG.n1 G70
    clear G70
    have Fk63 := Fs71; clear Fs71
    simp only [V.spliceL, V.cellsL] at Fk63
    refine V.nil ?_
    refine V.tN ?_
    refine V.seq ?_
    refine V.seq ?_
    refine V.region ?_
    refine V.run T_ok 1 rfl ?_
    refine V.loadO T_ok Fk2 rfl rfl rfl rfl rfl ?_
    refine V.nil ?_
    refine V.tN ?_
    refine V.block ?_
    refine V.seq ?_
    refine V.seq ?_
    refine V.region ?_
    refine V.run T_ok 2 rfl ?_
    refine V.nil ?_
    refine V.tN ?_
    refine V.condT rfl (fun h6 => ?_) (fun h6 => ?_)
    ·
     try replace h6 := V.dec h6
     try simp only [V.mk0, V.mk1, V.mk2, V.mk3] at h6
     refine V.skip ?_
     refine V.tN ?_
     refine V.condT rfl (fun h6 => ?_) (fun h6 => ?_)
     ·
      try replace h6 := V.dec h6
      try simp only [V.mk0, V.mk1, V.mk2, V.mk3] at h6
      refine V.seq ?_
      refine V.region ?_
      refine V.loadO T_ok Fk2 rfl rfl rfl rfl rfl ?_
      refine V.storeO Fk23 rfl rfl rfl rfl sz27 rfl rfl rfl rfl ?_
      rintro w74 G75 z77 Fs76
      clear Fk23
      have z78 := V.Fr.size G75
      first | replace F_o := F_o.mb G75 hD_o | clear F_o | skip
      first | replace Fk9 := Fk9.mv1 G75 (by omega) | clear Fk9 | skip
      first | replace Fk16 := Fk16.mv1 G75 (by omega) | clear Fk16 | skip
      first | replace F31 := F31.ma G75 | clear F31 | skip
      first | replace Fk2 := Fk2.mv1 G75 (by omega) | clear Fk2 | skip
      first | replace Fk63 := Fk63.mv1 G75 (by omega) | clear Fk63 | skip
      replace HG := HG.n1 G75
      clear G75
      have Fk23 := Fs76; clear Fs76
      simp only [V.spliceL, V.cellsL] at Fk23
      refine V.run T_ok 1 rfl ?_
      refine V.nil ?_
      refine V.tN ?_
      refine V.ret ?_
      refine V.bR ?_
      refine V.tR ?_
      refine V.done2 rfl (V.resV_cell T_ok Fk23 rfl rfl) (V.resV_tmp rfl) ?_
      first
        | rw [show rPush d mi me sw sl nw nl pr = (d, 0) by simp only [rPush, stR]; grind [decR]]
      exact ⟨a29, c30, (by first | rfl | simp only [List.length_set]), F31.re, HG⟩
     ·
      try replace h6 := V.dec h6
      try simp only [V.mk0, V.mk1, V.mk2, V.mk3] at h6
      refine V.seq ?_
      refine V.region ?_
      refine V.run T_ok 2 rfl ?_
      refine V.nil ?_
      refine V.tN ?_
      refine V.condT rfl (fun h9 => ?_) (fun h9 => ?_)
      ·
       try replace h9 := V.dec h9
       try simp only [V.mk0, V.mk1, V.mk2, V.mk3] at h9
       refine V.region ?_
       refine V.run T_ok 1 rfl ?_
       refine V.loadO T_ok Fk9 rfl rfl rfl rfl rfl ?_
       refine V.storeO Fk63 rfl rfl rfl rfl sz24 rfl rfl rfl rfl ?_
       rintro w79 G80 z82 Fs81
       clear Fk63
       have z83 := V.Fr.size G80
       first | replace F_o := F_o.mb G80 hD_o | clear F_o | skip
       first | replace Fk9 := Fk9.mv1 G80 (by omega) | clear Fk9 | skip
       first | replace Fk16 := Fk16.mv1 G80 (by omega) | clear Fk16 | skip
       first | replace Fk23 := Fk23.mv1 G80 (by omega) | clear Fk23 | skip
       first | replace F31 := F31.ma G80 | clear F31 | skip
       first | replace Fk2 := Fk2.mv1 G80 (by omega) | clear Fk2 | skip
       replace HG := HG.n1 G80
       clear G80
       have Fk63 := Fs81; clear Fs81
       simp only [V.spliceL, V.cellsL] at Fk63
       refine V.nil ?_
       refine V.bN ?_
       refine V.tN ?_
       refine V.seq ?_
       refine V.block ?_
       refine V.seq ?_
       refine V.region ?_
       refine V.run T_ok 2 rfl ?_
       refine V.loadO T_ok Fk9 rfl rfl rfl rfl rfl ?_
       refine V.run T_ok 2 rfl ?_
       refine V.split (j := 4) (t := 46) rfl rfl (fun g11_4 => ?_) (fun g11_4 => ?_)
       ·
        try replace g11_4 := V.dec g11_4
        try simp only [V.mk0, V.mk1, V.mk2, V.mk3] at g11_4
        refine V.run T_ok 1 rfl ?_
        refine V.yes rfl rfl rfl ?_
        refine V.loadO T_ok Fk63 rfl rfl rfl rfl rfl ?_
        refine V.yes rfl rfl rfl ?_
        refine V.run T_ok 1 rfl ?_
        refine V.run T_ok 1 rfl ?_
        refine V.yes rfl rfl rfl ?_
        refine V.loadO T_ok Fk16 rfl rfl rfl rfl rfl ?_
        refine V.run T_ok 3 rfl ?_
        refine V.nil ?_
        refine V.tN ?_
        refine V.condT rfl (fun h11 => ?_) (fun h11 => ?_)
        ·
         try replace h11 := V.dec h11
         try simp only [V.mk0, V.mk1, V.mk2, V.mk3] at h11
         refine V.seq ?_
         refine V.region ?_
         refine V.loadO T_ok Fk2 rfl rfl rfl rfl rfl ?_
         refine V.storeO Fk23 rfl rfl rfl rfl sz27 rfl rfl rfl rfl ?_
         rintro w84 G85 z87 Fs86
         clear Fk23
         have z88 := V.Fr.size G85
         first | replace F_o := F_o.mb G85 hD_o | clear F_o | skip
         first | replace Fk9 := Fk9.mv1 G85 (by omega) | clear Fk9 | skip
         first | replace Fk16 := Fk16.mv1 G85 (by omega) | clear Fk16 | skip
         first | replace F31 := F31.ma G85 | clear F31 | skip
         first | replace Fk2 := Fk2.mv1 G85 (by omega) | clear Fk2 | skip
         first | replace Fk63 := Fk63.mv1 G85 (by omega) | clear Fk63 | skip
         replace HG := HG.n1 G85
         clear G85
         have Fk23 := Fs86; clear Fs86
         simp only [V.spliceL, V.cellsL] at Fk23
         refine V.run T_ok 1 rfl ?_
         refine V.nil ?_
         refine V.tN ?_
         refine V.ret ?_
         refine V.bR ?_
         refine V.tR ?_
         refine V.done2 rfl (V.resV_cell T_ok Fk23 rfl rfl) (V.resV_tmp rfl) ?_
         first
           | rw [show rPush d mi me sw sl nw nl pr = (d, 121) by simp only [rPush, stR]; grind [decR]]
         exact ⟨a29, c30, (by first | rfl | simp only [List.length_set]), F31.re, HG⟩
        ·
         try replace h11 := V.dec h11
         try simp only [V.mk0, V.mk1, V.mk2, V.mk3] at h11
         refine V.seq ?_
         refine V.region ?_
         refine V.run T_ok 1 rfl ?_
         refine V.loadO T_ok Fk2 rfl rfl rfl rfl rfl ?_
         refine V.run T_ok 2 rfl ?_
         refine V.nil ?_
         refine V.tN ?_
         refine V.condT rfl (fun h13 => ?_) (fun h13 => ?_)
         ·
          try replace h13 := V.dec h13
          try simp only [V.mk0, V.mk1, V.mk2, V.mk3] at h13
          refine V.seq ?_
          refine V.region ?_
          refine V.loadO T_ok Fk2 rfl rfl rfl rfl rfl ?_
          refine V.storeO Fk23 rfl rfl rfl rfl sz27 rfl rfl rfl rfl ?_
          rintro w89 G90 z92 Fs91
          clear Fk23
          have z93 := V.Fr.size G90
          first | replace F_o := F_o.mb G90 hD_o | clear F_o | skip
          first | replace Fk9 := Fk9.mv1 G90 (by omega) | clear Fk9 | skip
          first | replace Fk16 := Fk16.mv1 G90 (by omega) | clear Fk16 | skip
          first | replace F31 := F31.ma G90 | clear F31 | skip
          first | replace Fk2 := Fk2.mv1 G90 (by omega) | clear Fk2 | skip
          first | replace Fk63 := Fk63.mv1 G90 (by omega) | clear Fk63 | skip
          replace HG := HG.n1 G90
          clear G90
          have Fk23 := Fs91; clear Fs91
          simp only [V.spliceL, V.cellsL] at Fk23
          refine V.run T_ok 1 rfl ?_
          refine V.nil ?_
          refine V.tN ?_
          refine V.ret ?_
          refine V.bR ?_
          refine V.tR ?_
          refine V.done2 rfl (V.resV_cell T_ok Fk23 rfl rfl) (V.resV_tmp rfl) ?_
          first
            | rw [show rPush d mi me sw sl nw nl pr = (d, 123) by simp only [rPush, stR]; grind [decR]]
          exact ⟨a29, c30, (by first | rfl | simp only [List.length_set]), F31.re, HG⟩
         ·
          try replace h13 := V.dec h13
          try simp only [V.mk0, V.mk1, V.mk2, V.mk3] at h13
          refine V.skip ?_
          refine V.bN ?_
          refine V.tN ?_
          refine V.seq ?_
          refine V.region ?_
          refine V.loadO T_ok Fk2 rfl rfl rfl rfl rfl ?_
          refine V.run T_ok 1 rfl ?_
          refine V.loadO T_ok Fk2 rfl rfl rfl rfl rfl ?_
          refine V.run T_ok 1 rfl ?_
          refine V.loadO T_ok Fk9 rfl rfl rfl rfl rfl ?_
          refine V.run T_ok 1 rfl ?_
          refine V.mkStruct T_ok zero24 rfl rfl rfl rfl rfl ?_
          refine V.call (decided_spec (ep := (max d.ep me)) (aw := 0) (al := 0) (c := false) (d := d) F31 (fun k hk => by have := hk.2; omega)) rfl rfl rfl ?_
          rintro _ w97 ⟨a94, c95, rfl, F96, G98⟩
          have z99 := V.Fr.size G98
          try replace F_o := F_o.gr G98
          try replace Fk9 := Fk9.gr G98
          try replace Fk16 := Fk16.gr G98
          try replace Fk23 := Fk23.gr G98
          try replace F31 := F31.gr G98
          try replace Fk2 := Fk2.gr G98
          try replace Fk63 := Fk63.gr G98
          replace HG := HG.grow G98
          clear G98
          refine V.storeO Fk23 rfl rfl rfl rfl sz27 rfl rfl rfl rfl ?_
          rintro w100 G101 z103 Fs102
          clear Fk23
          have z104 := V.Fr.size G101
          first | replace F_o := F_o.mb G101 hD_o | clear F_o | skip
          first | replace Fk9 := Fk9.mv1 G101 (by omega) | clear Fk9 | skip
          first | replace Fk16 := Fk16.mv1 G101 (by omega) | clear Fk16 | skip
          first | replace F31 := F31.ma G101 | clear F31 | skip
          first | replace Fk2 := Fk2.mv1 G101 (by omega) | clear Fk2 | skip
          first | replace Fk63 := Fk63.mv1 G101 (by omega) | clear Fk63 | skip
          first | replace F96 := F96.ma G101 | clear F96 | skip
          replace HG := HG.n1 G101
          clear G101
          have Fk23 := Fs102; clear Fs102
          simp only [V.spliceL, V.cellsL] at Fk23
          refine V.run T_ok 1 rfl ?_
          refine V.nil ?_
          refine V.tN ?_
          refine V.ret ?_
          refine V.done2 rfl (V.resV_cell T_ok Fk23 rfl rfl) (V.resV_tmp rfl) ?_
          first
            | rw [show rPush d mi me sw sl nw nl pr = (decR d (max d.ep me) 0 0 false, 0) by simp only [rPush, stR]; grind [decR]]
          exact ⟨a94, c95, (by first | rfl | simp only [List.length_set]), F96.re, HG⟩
       ·
        try replace g11_4 := V.dec g11_4
        try simp only [V.mk0, V.mk1, V.mk2, V.mk3] at g11_4
        refine V.run T_ok 8 rfl ?_
        refine V.nil ?_
        refine V.tN ?_
        refine V.condN rfl rfl ?_
        refine V.seq ?_
        refine V.region ?_
        refine V.run T_ok 1 rfl ?_
        refine V.loadO T_ok Fk2 rfl rfl rfl rfl rfl ?_
        refine V.run T_ok 2 rfl ?_
        refine V.nil ?_
        refine V.tN ?_
        refine V.condT rfl (fun h13 => ?_) (fun h13 => ?_)
        ·
         try replace h13 := V.dec h13
         try simp only [V.mk0, V.mk1, V.mk2, V.mk3] at h13
         refine V.seq ?_
         refine V.region ?_
         refine V.loadO T_ok Fk2 rfl rfl rfl rfl rfl ?_
         refine V.storeO Fk23 rfl rfl rfl rfl sz27 rfl rfl rfl rfl ?_
         rintro w105 G106 z108 Fs107
         clear Fk23
         have z109 := V.Fr.size G106
         first | replace F_o := F_o.mb G106 hD_o | clear F_o | skip
         first | replace Fk9 := Fk9.mv1 G106 (by omega) | clear Fk9 | skip
         first | replace Fk16 := Fk16.mv1 G106 (by omega) | clear Fk16 | skip
         first | replace F31 := F31.ma G106 | clear F31 | skip
         first | replace Fk2 := Fk2.mv1 G106 (by omega) | clear Fk2 | skip
         first | replace Fk63 := Fk63.mv1 G106 (by omega) | clear Fk63 | skip
         replace HG := HG.n1 G106
         clear G106
         have Fk23 := Fs107; clear Fs107
         simp only [V.spliceL, V.cellsL] at Fk23
         refine V.run T_ok 1 rfl ?_
         refine V.nil ?_
         refine V.tN ?_
         refine V.ret ?_
         refine V.bR ?_
         refine V.tR ?_
         refine V.done2 rfl (V.resV_cell T_ok Fk23 rfl rfl) (V.resV_tmp rfl) ?_
         first
           | rw [show rPush d mi me sw sl nw nl pr = (d, 123) by simp only [rPush, stR]; grind [decR]]
         exact ⟨a29, c30, (by first | rfl | simp only [List.length_set]), F31.re, HG⟩
        ·
         try replace h13 := V.dec h13
         try simp only [V.mk0, V.mk1, V.mk2, V.mk3] at h13
         refine V.skip ?_
         refine V.bN ?_
         refine V.tN ?_
         refine V.seq ?_
         refine V.region ?_
         refine V.loadO T_ok Fk2 rfl rfl rfl rfl rfl ?_
         refine V.run T_ok 1 rfl ?_
         refine V.loadO T_ok Fk2 rfl rfl rfl rfl rfl ?_
         refine V.run T_ok 1 rfl ?_
         refine V.loadO T_ok Fk9 rfl rfl rfl rfl rfl ?_
         refine V.run T_ok 1 rfl ?_
         refine V.mkStruct T_ok zero24 rfl rfl rfl rfl rfl ?_
         refine V.call (decided_spec (ep := (max d.ep me)) (aw := 0) (al := 0) (c := false) (d := d) F31 (fun k hk => by have := hk.2; omega)) rfl rfl rfl ?_
         rintro _ w113 ⟨a110, c111, rfl, F112, G114⟩
         have z115 := V.Fr.size G114
         try replace F_o := F_o.gr G114
         try replace Fk9 := Fk9.gr G114
         try replace Fk16 := Fk16.gr G114
         try replace Fk23 := Fk23.gr G114
         try replace F31 := F31.gr G114
         try replace Fk2 := Fk2.gr G114
         try replace Fk63 := Fk63.gr G114
         replace HG := HG.grow G114
         clear G114
         refine V.storeO Fk23 rfl rfl rfl rfl sz27 rfl rfl rfl rfl ?_
         rintro w116 G117 z119 Fs118
         clear Fk23
         have z120 := V.Fr.size G117
         first | replace F_o := F_o.mb G117 hD_o | clear F_o | skip
         first | replace Fk9 := Fk9.mv1 G117 (by omega) | clear Fk9 | skip
         first | replace Fk16 := Fk16.mv1 G117 (by omega) | clear Fk16 | skip
         first | replace F31 := F31.ma G117 | clear F31 | skip
         first | replace Fk2 := Fk2.mv1 G117 (by omega) | clear Fk2 | skip
         first | replace Fk63 := Fk63.mv1 G117 (by omega) | clear Fk63 | skip
         first | replace F112 := F112.ma G117 | clear F112 | skip
         replace HG := HG.n1 G117
         clear G117
         have Fk23 := Fs118; clear Fs118
         simp only [V.spliceL, V.cellsL] at Fk23
         refine V.run T_ok 1 rfl ?_
         refine V.nil ?_
         refine V.tN ?_
         refine V.ret ?_
         refine V.done2 rfl (V.resV_cell T_ok Fk23 rfl rfl) (V.resV_tmp rfl) ?_
         first
           | rw [show rPush d mi me sw sl nw nl pr = (decR d (max d.ep me) 0 0 false, 0) by simp only [rPush, stR]; grind [decR]]
         exact ⟨a110, c111, (by first | rfl | simp only [List.length_set]), F112.re, HG⟩
      ·
       try replace h9 := V.dec h9
       try simp only [V.mk0, V.mk1, V.mk2, V.mk3] at h9
       refine V.skip ?_
       refine V.bN ?_
       refine V.tN ?_
       refine V.seq ?_
       refine V.block ?_
       refine V.seq ?_
       refine V.region ?_
       refine V.run T_ok 2 rfl ?_
       refine V.loadO T_ok Fk9 rfl rfl rfl rfl rfl ?_
       refine V.run T_ok 2 rfl ?_
       refine V.split (j := 4) (t := 46) rfl rfl (fun g11_4 => ?_) (fun g11_4 => ?_)
       ·
        try replace g11_4 := V.dec g11_4
        try simp only [V.mk0, V.mk1, V.mk2, V.mk3] at g11_4
        refine V.run T_ok 1 rfl ?_
        refine V.yes rfl rfl rfl ?_
        refine V.loadO T_ok Fk63 rfl rfl rfl rfl rfl ?_
        refine V.yes rfl rfl rfl ?_
        refine V.run T_ok 1 rfl ?_
        refine V.run T_ok 1 rfl ?_
        refine V.yes rfl rfl rfl ?_
        refine V.loadO T_ok Fk16 rfl rfl rfl rfl rfl ?_
        refine V.run T_ok 3 rfl ?_
        refine V.nil ?_
        refine V.tN ?_
        refine V.condT rfl (fun h11 => ?_) (fun h11 => ?_)
        ·
         try replace h11 := V.dec h11
         try simp only [V.mk0, V.mk1, V.mk2, V.mk3] at h11
         refine V.seq ?_
         refine V.region ?_
         refine V.loadO T_ok Fk2 rfl rfl rfl rfl rfl ?_
         refine V.storeO Fk23 rfl rfl rfl rfl sz27 rfl rfl rfl rfl ?_
         rintro w121 G122 z124 Fs123
         clear Fk23
         have z125 := V.Fr.size G122
         first | replace F_o := F_o.mb G122 hD_o | clear F_o | skip
         first | replace Fk9 := Fk9.mv1 G122 (by omega) | clear Fk9 | skip
         first | replace Fk16 := Fk16.mv1 G122 (by omega) | clear Fk16 | skip
         first | replace F31 := F31.ma G122 | clear F31 | skip
         first | replace Fk2 := Fk2.mv1 G122 (by omega) | clear Fk2 | skip
         first | replace Fk63 := Fk63.mv1 G122 (by omega) | clear Fk63 | skip
         replace HG := HG.n1 G122
         clear G122
         have Fk23 := Fs123; clear Fs123
         simp only [V.spliceL, V.cellsL] at Fk23
         refine V.run T_ok 1 rfl ?_
         refine V.nil ?_
         refine V.tN ?_
         refine V.ret ?_
         refine V.bR ?_
         refine V.tR ?_
         refine V.done2 rfl (V.resV_cell T_ok Fk23 rfl rfl) (V.resV_tmp rfl) ?_
         first
           | rw [show rPush d mi me sw sl nw nl pr = (d, 121) by simp only [rPush, stR]; grind [decR]]
         exact ⟨a29, c30, (by first | rfl | simp only [List.length_set]), F31.re, HG⟩
        ·
         try replace h11 := V.dec h11
         try simp only [V.mk0, V.mk1, V.mk2, V.mk3] at h11
         refine V.seq ?_
         refine V.region ?_
         refine V.run T_ok 1 rfl ?_
         refine V.loadO T_ok Fk2 rfl rfl rfl rfl rfl ?_
         refine V.run T_ok 2 rfl ?_
         refine V.nil ?_
         refine V.tN ?_
         refine V.condT rfl (fun h13 => ?_) (fun h13 => ?_)
         ·
          try replace h13 := V.dec h13
          try simp only [V.mk0, V.mk1, V.mk2, V.mk3] at h13
          refine V.seq ?_
          refine V.region ?_
          refine V.loadO T_ok Fk2 rfl rfl rfl rfl rfl ?_
          refine V.storeO Fk23 rfl rfl rfl rfl sz27 rfl rfl rfl rfl ?_
          rintro w126 G127 z129 Fs128
          clear Fk23
          have z130 := V.Fr.size G127
          first | replace F_o := F_o.mb G127 hD_o | clear F_o | skip
          first | replace Fk9 := Fk9.mv1 G127 (by omega) | clear Fk9 | skip
          first | replace Fk16 := Fk16.mv1 G127 (by omega) | clear Fk16 | skip
          first | replace F31 := F31.ma G127 | clear F31 | skip
          first | replace Fk2 := Fk2.mv1 G127 (by omega) | clear Fk2 | skip
          first | replace Fk63 := Fk63.mv1 G127 (by omega) | clear Fk63 | skip
          replace HG := HG.n1 G127
          clear G127
          have Fk23 := Fs128; clear Fs128
          simp only [V.spliceL, V.cellsL] at Fk23
          refine V.run T_ok 1 rfl ?_
          refine V.nil ?_
          refine V.tN ?_
          refine V.ret ?_
          refine V.bR ?_
          refine V.tR ?_
          refine V.done2 rfl (V.resV_cell T_ok Fk23 rfl rfl) (V.resV_tmp rfl) ?_
          first
            | rw [show rPush d mi me sw sl nw nl pr = (d, 123) by simp only [rPush, stR]; grind [decR]]
          exact ⟨a29, c30, (by first | rfl | simp only [List.length_set]), F31.re, HG⟩
         ·
          try replace h13 := V.dec h13
          try simp only [V.mk0, V.mk1, V.mk2, V.mk3] at h13
          refine V.skip ?_
          refine V.bN ?_
          refine V.tN ?_
          refine V.seq ?_
          refine V.region ?_
          refine V.loadO T_ok Fk2 rfl rfl rfl rfl rfl ?_
          refine V.run T_ok 1 rfl ?_
          refine V.loadO T_ok Fk2 rfl rfl rfl rfl rfl ?_
          refine V.run T_ok 1 rfl ?_
          refine V.loadO T_ok Fk9 rfl rfl rfl rfl rfl ?_
          refine V.run T_ok 1 rfl ?_
          refine V.mkStruct T_ok zero24 rfl rfl rfl rfl rfl ?_
          refine V.call (decided_spec (ep := (max d.ep me)) (aw := 0) (al := 0) (c := false) (d := d) F31 (fun k hk => by have := hk.2; omega)) rfl rfl rfl ?_
          rintro _ w134 ⟨a131, c132, rfl, F133, G135⟩
          have z136 := V.Fr.size G135
          try replace F_o := F_o.gr G135
          try replace Fk9 := Fk9.gr G135
          try replace Fk16 := Fk16.gr G135
          try replace Fk23 := Fk23.gr G135
          try replace F31 := F31.gr G135
          try replace Fk2 := Fk2.gr G135
          try replace Fk63 := Fk63.gr G135
          replace HG := HG.grow G135
          clear G135
          refine V.storeO Fk23 rfl rfl rfl rfl sz27 rfl rfl rfl rfl ?_
          rintro w137 G138 z140 Fs139
          clear Fk23
          have z141 := V.Fr.size G138
          first | replace F_o := F_o.mb G138 hD_o | clear F_o | skip
          first | replace Fk9 := Fk9.mv1 G138 (by omega) | clear Fk9 | skip
          first | replace Fk16 := Fk16.mv1 G138 (by omega) | clear Fk16 | skip
          first | replace F31 := F31.ma G138 | clear F31 | skip
          first | replace Fk2 := Fk2.mv1 G138 (by omega) | clear Fk2 | skip
          first | replace Fk63 := Fk63.mv1 G138 (by omega) | clear Fk63 | skip
          first | replace F133 := F133.ma G138 | clear F133 | skip
          replace HG := HG.n1 G138
          clear G138
          have Fk23 := Fs139; clear Fs139
          simp only [V.spliceL, V.cellsL] at Fk23
          refine V.run T_ok 1 rfl ?_
          refine V.nil ?_
          refine V.tN ?_
          refine V.ret ?_
          refine V.done2 rfl (V.resV_cell T_ok Fk23 rfl rfl) (V.resV_tmp rfl) ?_
          first
            | rw [show rPush d mi me sw sl nw nl pr = (decR d (max d.ep me) 0 0 false, 0) by simp only [rPush, stR]; grind [decR]]
          exact ⟨a131, c132, (by first | rfl | simp only [List.length_set]), F133.re, HG⟩
       ·
        try replace g11_4 := V.dec g11_4
        try simp only [V.mk0, V.mk1, V.mk2, V.mk3] at g11_4
        refine V.run T_ok 8 rfl ?_
        refine V.nil ?_
        refine V.tN ?_
        refine V.condN rfl rfl ?_
        refine V.seq ?_
        refine V.region ?_
        refine V.run T_ok 1 rfl ?_
        refine V.loadO T_ok Fk2 rfl rfl rfl rfl rfl ?_
        refine V.run T_ok 2 rfl ?_
        refine V.nil ?_
        refine V.tN ?_
        refine V.condT rfl (fun h13 => ?_) (fun h13 => ?_)
        ·
         try replace h13 := V.dec h13
         try simp only [V.mk0, V.mk1, V.mk2, V.mk3] at h13
         refine V.seq ?_
         refine V.region ?_
         refine V.loadO T_ok Fk2 rfl rfl rfl rfl rfl ?_
         refine V.storeO Fk23 rfl rfl rfl rfl sz27 rfl rfl rfl rfl ?_
         rintro w142 G143 z145 Fs144
         clear Fk23
         have z146 := V.Fr.size G143
         first | replace F_o := F_o.mb G143 hD_o | clear F_o | skip
         first | replace Fk9 := Fk9.mv1 G143 (by omega) | clear Fk9 | skip
         first | replace Fk16 := Fk16.mv1 G143 (by omega) | clear Fk16 | skip
         first | replace F31 := F31.ma G143 | clear F31 | skip
         first | replace Fk2 := Fk2.mv1 G143 (by omega) | clear Fk2 | skip
         first | replace Fk63 := Fk63.mv1 G143 (by omega) | clear Fk63 | skip
         replace HG := HG.n1 G143
         clear G143
         have Fk23 := Fs144; clear Fs144
         simp only [V.spliceL, V.cellsL] at Fk23
         refine V.run T_ok 1 rfl ?_
         refine V.nil ?_
         refine V.tN ?_
         refine V.ret ?_
         refine V.bR ?_
         refine V.tR ?_
         refine V.done2 rfl (V.resV_cell T_ok Fk23 rfl rfl) (V.resV_tmp rfl) ?_
         first
           | rw [show rPush d mi me sw sl nw nl pr = (d, 123) by simp only [rPush, stR]; grind [decR]]
         exact ⟨a29, c30, (by first | rfl | simp only [List.length_set]), F31.re, HG⟩
        ·
         try replace h13 := V.dec h13
         try simp only [V.mk0, V.mk1, V.mk2, V.mk3] at h13
         refine V.skip ?_
         refine V.bN ?_
         refine V.tN ?_
         refine V.seq ?_
         refine V.region ?_
         refine V.loadO T_ok Fk2 rfl rfl rfl rfl rfl ?_
         refine V.run T_ok 1 rfl ?_
         refine V.loadO T_ok Fk2 rfl rfl rfl rfl rfl ?_
         refine V.run T_ok 1 rfl ?_
         refine V.loadO T_ok Fk9 rfl rfl rfl rfl rfl ?_
         refine V.run T_ok 1 rfl ?_
         refine V.mkStruct T_ok zero24 rfl rfl rfl rfl rfl ?_
         refine V.call (decided_spec (ep := (max d.ep me)) (aw := 0) (al := 0) (c := false) (d := d) F31 (fun k hk => by have := hk.2; omega)) rfl rfl rfl ?_
         rintro _ w150 ⟨a147, c148, rfl, F149, G151⟩
         have z152 := V.Fr.size G151
         try replace F_o := F_o.gr G151
         try replace Fk9 := Fk9.gr G151
         try replace Fk16 := Fk16.gr G151
         try replace Fk23 := Fk23.gr G151
         try replace F31 := F31.gr G151
         try replace Fk2 := Fk2.gr G151
         try replace Fk63 := Fk63.gr G151
         replace HG := HG.grow G151
         clear G151
         refine V.storeO Fk23 rfl rfl rfl rfl sz27 rfl rfl rfl rfl ?_
         rintro w153 G154 z156 Fs155
         clear Fk23
         have z157 := V.Fr.size G154
         first | replace F_o := F_o.mb G154 hD_o | clear F_o | skip
         first | replace Fk9 := Fk9.mv1 G154 (by omega) | clear Fk9 | skip
         first | replace Fk16 := Fk16.mv1 G154 (by omega) | clear Fk16 | skip
         first | replace F31 := F31.ma G154 | clear F31 | skip
         first | replace Fk2 := Fk2.mv1 G154 (by omega) | clear Fk2 | skip
         first | replace Fk63 := Fk63.mv1 G154 (by omega) | clear Fk63 | skip
         first | replace F149 := F149.ma G154 | clear F149 | skip
         replace HG := HG.n1 G154
         clear G154
         have Fk23 := Fs155; clear Fs155
         simp only [V.spliceL, V.cellsL] at Fk23
         refine V.run T_ok 1 rfl ?_
         refine V.nil ?_
         refine V.tN ?_
         refine V.ret ?_
         refine V.done2 rfl (V.resV_cell T_ok Fk23 rfl rfl) (V.resV_tmp rfl) ?_
         first
           | rw [show rPush d mi me sw sl nw nl pr = (decR d (max d.ep me) 0 0 false, 0) by simp only [rPush, stR]; grind [decR]]
         exact ⟨a147, c148, (by first | rfl | simp only [List.length_set]), F149.re, HG⟩
    ·
     try replace h6 := V.dec h6
     try simp only [V.mk0, V.mk1, V.mk2, V.mk3] at h6
     refine V.region ?_
     refine V.run T_ok 2 rfl ?_
     refine V.nil ?_
     refine V.tN ?_
     refine V.condT rfl (fun h7 => ?_) (fun h7 => ?_)
     ·
      try replace h7 := V.dec h7
      try simp only [V.mk0, V.mk1, V.mk2, V.mk3] at h7
      refine V.seq ?_
      refine V.region ?_
      refine V.loadO T_ok Fk2 rfl rfl rfl rfl rfl ?_
      refine V.storeO Fk23 rfl rfl rfl rfl sz27 rfl rfl rfl rfl ?_
      rintro w158 G159 z161 Fs160
      clear Fk23
      have z162 := V.Fr.size G159
      first | replace F_o := F_o.mb G159 hD_o | clear F_o | skip
      first | replace Fk9 := Fk9.mv1 G159 (by omega) | clear Fk9 | skip
      first | replace Fk16 := Fk16.mv1 G159 (by omega) | clear Fk16 | skip
      first | replace F31 := F31.ma G159 | clear F31 | skip
      first | replace Fk2 := Fk2.mv1 G159 (by omega) | clear Fk2 | skip
      first | replace Fk63 := Fk63.mv1 G159 (by omega) | clear Fk63 | skip
      replace HG := HG.n1 G159
      clear G159
      have Fk23 := Fs160; clear Fs160
      simp only [V.spliceL, V.cellsL] at Fk23
      refine V.run T_ok 1 rfl ?_
      refine V.nil ?_
      refine V.tN ?_
      refine V.ret ?_
      refine V.bR ?_
      refine V.tR ?_
      refine V.done2 rfl (V.resV_cell T_ok Fk23 rfl rfl) (V.resV_tmp rfl) ?_
      first
        | rw [show rPush d mi me sw sl nw nl pr = (d, 0) by simp only [rPush, stR]; grind [decR]]
      exact ⟨a29, c30, (by first | rfl | simp only [List.length_set]), F31.re, HG⟩
     ·
      try replace h7 := V.dec h7
      try simp only [V.mk0, V.mk1, V.mk2, V.mk3] at h7
      refine V.seq ?_
      refine V.region ?_
      refine V.run T_ok 2 rfl ?_
      refine V.nil ?_
      refine V.tN ?_
      refine V.condT rfl (fun h9 => ?_) (fun h9 => ?_)
      ·
       try replace h9 := V.dec h9
       try simp only [V.mk0, V.mk1, V.mk2, V.mk3] at h9
       refine V.region ?_
       refine V.run T_ok 1 rfl ?_
       refine V.loadO T_ok Fk9 rfl rfl rfl rfl rfl ?_
       refine V.storeO Fk63 rfl rfl rfl rfl sz24 rfl rfl rfl rfl ?_
       rintro w163 G164 z166 Fs165
       clear Fk63
       have z167 := V.Fr.size G164
       first | replace F_o := F_o.mb G164 hD_o | clear F_o | skip
       first | replace Fk9 := Fk9.mv1 G164 (by omega) | clear Fk9 | skip
       first | replace Fk16 := Fk16.mv1 G164 (by omega) | clear Fk16 | skip
       first | replace Fk23 := Fk23.mv1 G164 (by omega) | clear Fk23 | skip
       first | replace F31 := F31.ma G164 | clear F31 | skip
       first | replace Fk2 := Fk2.mv1 G164 (by omega) | clear Fk2 | skip
       replace HG := HG.n1 G164
       clear G164
       have Fk63 := Fs165; clear Fs165
       simp only [V.spliceL, V.cellsL] at Fk63
       refine V.nil ?_
       refine V.bN ?_
       refine V.tN ?_
       refine V.seq ?_
       refine V.block ?_
       refine V.seq ?_
       refine V.region ?_
       refine V.run T_ok 2 rfl ?_
       refine V.loadO T_ok Fk9 rfl rfl rfl rfl rfl ?_
       refine V.run T_ok 2 rfl ?_
       refine V.split (j := 4) (t := 46) rfl rfl (fun g11_4 => ?_) (fun g11_4 => ?_)
       ·
        try replace g11_4 := V.dec g11_4
        try simp only [V.mk0, V.mk1, V.mk2, V.mk3] at g11_4
        refine V.run T_ok 1 rfl ?_
        refine V.yes rfl rfl rfl ?_
        refine V.loadO T_ok Fk63 rfl rfl rfl rfl rfl ?_
        refine V.yes rfl rfl rfl ?_
        refine V.run T_ok 1 rfl ?_
        refine V.run T_ok 1 rfl ?_
        refine V.yes rfl rfl rfl ?_
        refine V.loadO T_ok Fk16 rfl rfl rfl rfl rfl ?_
        refine V.run T_ok 3 rfl ?_
        refine V.nil ?_
        refine V.tN ?_
        refine V.condT rfl (fun h11 => ?_) (fun h11 => ?_)
        ·
         try replace h11 := V.dec h11
         try simp only [V.mk0, V.mk1, V.mk2, V.mk3] at h11
         refine V.seq ?_
         refine V.region ?_
         refine V.loadO T_ok Fk2 rfl rfl rfl rfl rfl ?_
         refine V.storeO Fk23 rfl rfl rfl rfl sz27 rfl rfl rfl rfl ?_
         rintro w168 G169 z171 Fs170
         clear Fk23
         have z172 := V.Fr.size G169
         first | replace F_o := F_o.mb G169 hD_o | clear F_o | skip
         first | replace Fk9 := Fk9.mv1 G169 (by omega) | clear Fk9 | skip
         first | replace Fk16 := Fk16.mv1 G169 (by omega) | clear Fk16 | skip
         first | replace F31 := F31.ma G169 | clear F31 | skip
         first | replace Fk2 := Fk2.mv1 G169 (by omega) | clear Fk2 | skip
         first | replace Fk63 := Fk63.mv1 G169 (by omega) | clear Fk63 | skip
         replace HG := HG.n1 G169
         clear G169
         have Fk23 := Fs170; clear Fs170
         simp only [V.spliceL, V.cellsL] at Fk23
         refine V.run T_ok 1 rfl ?_
         refine V.nil ?_
         refine V.tN ?_
         refine V.ret ?_
         refine V.bR ?_
         refine V.tR ?_
         refine V.done2 rfl (V.resV_cell T_ok Fk23 rfl rfl) (V.resV_tmp rfl) ?_
         first
           | rw [show rPush d mi me sw sl nw nl pr = (d, 121) by simp only [rPush, stR]; grind [decR]]
         exact ⟨a29, c30, (by first | rfl | simp only [List.length_set]), F31.re, HG⟩
        ·
         try replace h11 := V.dec h11
         try simp only [V.mk0, V.mk1, V.mk2, V.mk3] at h11
         refine V.seq ?_
         refine V.region ?_
         refine V.run T_ok 1 rfl ?_
         refine V.loadO T_ok Fk2 rfl rfl rfl rfl rfl ?_
         refine V.run T_ok 2 rfl ?_
         refine V.nil ?_
         refine V.tN ?_
         refine V.condT rfl (fun h13 => ?_) (fun h13 => ?_)
         ·
          try replace h13 := V.dec h13
          try simp only [V.mk0, V.mk1, V.mk2, V.mk3] at h13
          refine V.seq ?_
          refine V.region ?_
          refine V.loadO T_ok Fk2 rfl rfl rfl rfl rfl ?_
          refine V.storeO Fk23 rfl rfl rfl rfl sz27 rfl rfl rfl rfl ?_
          rintro w173 G174 z176 Fs175
          clear Fk23
          have z177 := V.Fr.size G174
          first | replace F_o := F_o.mb G174 hD_o | clear F_o | skip
          first | replace Fk9 := Fk9.mv1 G174 (by omega) | clear Fk9 | skip
          first | replace Fk16 := Fk16.mv1 G174 (by omega) | clear Fk16 | skip
          first | replace F31 := F31.ma G174 | clear F31 | skip
          first | replace Fk2 := Fk2.mv1 G174 (by omega) | clear Fk2 | skip
          first | replace Fk63 := Fk63.mv1 G174 (by omega) | clear Fk63 | skip
          replace HG := HG.n1 G174
          clear G174
          have Fk23 := Fs175; clear Fs175
          simp only [V.spliceL, V.cellsL] at Fk23
          refine V.run T_ok 1 rfl ?_
          refine V.nil ?_
          refine V.tN ?_
          refine V.ret ?_
          refine V.bR ?_
          refine V.tR ?_
          refine V.done2 rfl (V.resV_cell T_ok Fk23 rfl rfl) (V.resV_tmp rfl) ?_
          first
            | rw [show rPush d mi me sw sl nw nl pr = (d, 123) by simp only [rPush, stR]; grind [decR]]
          exact ⟨a29, c30, (by first | rfl | simp only [List.length_set]), F31.re, HG⟩
         ·
          try replace h13 := V.dec h13
          try simp only [V.mk0, V.mk1, V.mk2, V.mk3] at h13
          refine V.skip ?_
          refine V.bN ?_
          refine V.tN ?_
          refine V.seq ?_
          refine V.region ?_
          refine V.loadO T_ok Fk2 rfl rfl rfl rfl rfl ?_
          refine V.run T_ok 1 rfl ?_
          refine V.loadO T_ok Fk2 rfl rfl rfl rfl rfl ?_
          refine V.run T_ok 1 rfl ?_
          refine V.loadO T_ok Fk9 rfl rfl rfl rfl rfl ?_
          refine V.run T_ok 1 rfl ?_
          refine V.mkStruct T_ok zero24 rfl rfl rfl rfl rfl ?_
          refine V.call (decided_spec (ep := (max d.ep me)) (aw := 0) (al := 0) (c := false) (d := d) F31 (fun k hk => by have := hk.2; omega)) rfl rfl rfl ?_
          rintro _ w181 ⟨a178, c179, rfl, F180, G182⟩
          have z183 := V.Fr.size G182
          try replace F_o := F_o.gr G182
          try replace Fk9 := Fk9.gr G182
          try replace Fk16 := Fk16.gr G182
          try replace Fk23 := Fk23.gr G182
          try replace F31 := F31.gr G182
          try replace Fk2 := Fk2.gr G182
          try replace Fk63 := Fk63.gr G182
          replace HG := HG.grow G182
          clear G182
          refine V.storeO Fk23 rfl rfl rfl rfl sz27 rfl rfl rfl rfl ?_
          rintro w184 G185 z187 Fs186
          clear Fk23
          have z188 := V.Fr.size G185
          first | replace F_o := F_o.mb G185 hD_o | clear F_o | skip
          first | replace Fk9 := Fk9.mv1 G185 (by omega) | clear Fk9 | skip
          first | replace Fk16 := Fk16.mv1 G185 (by omega) | clear Fk16 | skip
          first | replace F31 := F31.ma G185 | clear F31 | skip
          first | replace Fk2 := Fk2.mv1 G185 (by omega) | clear Fk2 | skip
          first | replace Fk63 := Fk63.mv1 G185 (by omega) | clear Fk63 | skip
          first | replace F180 := F180.ma G185 | clear F180 | skip
          replace HG := HG.n1 G185
          clear G185
          have Fk23 := Fs186; clear Fs186
          simp only [V.spliceL, V.cellsL] at Fk23
          refine V.run T_ok 1 rfl ?_
          refine V.nil ?_
          refine V.tN ?_
          refine V.ret ?_
          refine V.done2 rfl (V.resV_cell T_ok Fk23 rfl rfl) (V.resV_tmp rfl) ?_
          first
            | rw [show rPush d mi me sw sl nw nl pr = (decR d (max d.ep me) 0 0 false, 0) by simp only [rPush, stR]; grind [decR]]
          exact ⟨a178, c179, (by first | rfl | simp only [List.length_set]), F180.re, HG⟩
       ·
        try replace g11_4 := V.dec g11_4
        try simp only [V.mk0, V.mk1, V.mk2, V.mk3] at g11_4
        refine V.run T_ok 8 rfl ?_
        refine V.nil ?_
        refine V.tN ?_
        refine V.condN rfl rfl ?_
        refine V.seq ?_
        refine V.region ?_
        refine V.run T_ok 1 rfl ?_
        refine V.loadO T_ok Fk2 rfl rfl rfl rfl rfl ?_
        refine V.run T_ok 2 rfl ?_
        refine V.nil ?_
        refine V.tN ?_
        refine V.condT rfl (fun h13 => ?_) (fun h13 => ?_)
        ·
         try replace h13 := V.dec h13
         try simp only [V.mk0, V.mk1, V.mk2, V.mk3] at h13
         refine V.seq ?_
         refine V.region ?_
         refine V.loadO T_ok Fk2 rfl rfl rfl rfl rfl ?_
         refine V.storeO Fk23 rfl rfl rfl rfl sz27 rfl rfl rfl rfl ?_
         rintro w189 G190 z192 Fs191
         clear Fk23
         have z193 := V.Fr.size G190
         first | replace F_o := F_o.mb G190 hD_o | clear F_o | skip
         first | replace Fk9 := Fk9.mv1 G190 (by omega) | clear Fk9 | skip
         first | replace Fk16 := Fk16.mv1 G190 (by omega) | clear Fk16 | skip
         first | replace F31 := F31.ma G190 | clear F31 | skip
         first | replace Fk2 := Fk2.mv1 G190 (by omega) | clear Fk2 | skip
         first | replace Fk63 := Fk63.mv1 G190 (by omega) | clear Fk63 | skip
         replace HG := HG.n1 G190
         clear G190
         have Fk23 := Fs191; clear Fs191
         simp only [V.spliceL, V.cellsL] at Fk23
         refine V.run T_ok 1 rfl ?_
         refine V.nil ?_
         refine V.tN ?_
         refine V.ret ?_
         refine V.bR ?_
         refine V.tR ?_
         refine V.done2 rfl (V.resV_cell T_ok Fk23 rfl rfl) (V.resV_tmp rfl) ?_
         first
           | rw [show rPush d mi me sw sl nw nl pr = (d, 123) by simp only [rPush, stR]; grind [decR]]
         exact ⟨a29, c30, (by first | rfl | simp only [List.length_set]), F31.re, HG⟩
        ·
         try replace h13 := V.dec h13
         try simp only [V.mk0, V.mk1, V.mk2, V.mk3] at h13
         refine V.skip ?_
         refine V.bN ?_
         refine V.tN ?_
         refine V.seq ?_
         refine V.region ?_
         refine V.loadO T_ok Fk2 rfl rfl rfl rfl rfl ?_
         refine V.run T_ok 1 rfl ?_
         refine V.loadO T_ok Fk2 rfl rfl rfl rfl rfl ?_
         refine V.run T_ok 1 rfl ?_
         refine V.loadO T_ok Fk9 rfl rfl rfl rfl rfl ?_
         refine V.run T_ok 1 rfl ?_
         refine V.mkStruct T_ok zero24 rfl rfl rfl rfl rfl ?_
         refine V.call (decided_spec (ep := (max d.ep me)) (aw := 0) (al := 0) (c := false) (d := d) F31 (fun k hk => by have := hk.2; omega)) rfl rfl rfl ?_
         rintro _ w197 ⟨a194, c195, rfl, F196, G198⟩
         have z199 := V.Fr.size G198
         try replace F_o := F_o.gr G198
         try replace Fk9 := Fk9.gr G198
         try replace Fk16 := Fk16.gr G198
         try replace Fk23 := Fk23.gr G198
         try replace F31 := F31.gr G198
         try replace Fk2 := Fk2.gr G198
         try replace Fk63 := Fk63.gr G198
         replace HG := HG.grow G198
         clear G198
         refine V.storeO Fk23 rfl rfl rfl rfl sz27 rfl rfl rfl rfl ?_
         rintro w200 G201 z203 Fs202
         clear Fk23
         have z204 := V.Fr.size G201
         first | replace F_o := F_o.mb G201 hD_o | clear F_o | skip
         first | replace Fk9 := Fk9.mv1 G201 (by omega) | clear Fk9 | skip
         first | replace Fk16 := Fk16.mv1 G201 (by omega) | clear Fk16 | skip
         first | replace F31 := F31.ma G201 | clear F31 | skip
         first | replace Fk2 := Fk2.mv1 G201 (by omega) | clear Fk2 | skip
         first | replace Fk63 := Fk63.mv1 G201 (by omega) | clear Fk63 | skip
         first | replace F196 := F196.ma G201 | clear F196 | skip
         replace HG := HG.n1 G201
         clear G201
         have Fk23 := Fs202; clear Fs202
         simp only [V.spliceL, V.cellsL] at Fk23
         refine V.run T_ok 1 rfl ?_
         refine V.nil ?_
         refine V.tN ?_
         refine V.ret ?_
         refine V.done2 rfl (V.resV_cell T_ok Fk23 rfl rfl) (V.resV_tmp rfl) ?_
         first
           | rw [show rPush d mi me sw sl nw nl pr = (decR d (max d.ep me) 0 0 false, 0) by simp only [rPush, stR]; grind [decR]]
         exact ⟨a194, c195, (by first | rfl | simp only [List.length_set]), F196.re, HG⟩
      ·
       try replace h9 := V.dec h9
       try simp only [V.mk0, V.mk1, V.mk2, V.mk3] at h9
       refine V.skip ?_
       refine V.bN ?_
       refine V.tN ?_
       refine V.seq ?_
       refine V.block ?_
       refine V.seq ?_
       refine V.region ?_
       refine V.run T_ok 2 rfl ?_
       refine V.loadO T_ok Fk9 rfl rfl rfl rfl rfl ?_
       refine V.run T_ok 2 rfl ?_
       refine V.split (j := 4) (t := 46) rfl rfl (fun g11_4 => ?_) (fun g11_4 => ?_)
       ·
        try replace g11_4 := V.dec g11_4
        try simp only [V.mk0, V.mk1, V.mk2, V.mk3] at g11_4
        refine V.run T_ok 1 rfl ?_
        refine V.yes rfl rfl rfl ?_
        refine V.loadO T_ok Fk63 rfl rfl rfl rfl rfl ?_
        refine V.yes rfl rfl rfl ?_
        refine V.run T_ok 1 rfl ?_
        refine V.run T_ok 1 rfl ?_
        refine V.yes rfl rfl rfl ?_
        refine V.loadO T_ok Fk16 rfl rfl rfl rfl rfl ?_
        refine V.run T_ok 3 rfl ?_
        refine V.nil ?_
        refine V.tN ?_
        refine V.condT rfl (fun h11 => ?_) (fun h11 => ?_)
        ·
         try replace h11 := V.dec h11
         try simp only [V.mk0, V.mk1, V.mk2, V.mk3] at h11
         refine V.seq ?_
         refine V.region ?_
         refine V.loadO T_ok Fk2 rfl rfl rfl rfl rfl ?_
         refine V.storeO Fk23 rfl rfl rfl rfl sz27 rfl rfl rfl rfl ?_
         rintro w205 G206 z208 Fs207
         clear Fk23
         have z209 := V.Fr.size G206
         first | replace F_o := F_o.mb G206 hD_o | clear F_o | skip
         first | replace Fk9 := Fk9.mv1 G206 (by omega) | clear Fk9 | skip
         first | replace Fk16 := Fk16.mv1 G206 (by omega) | clear Fk16 | skip
         first | replace F31 := F31.ma G206 | clear F31 | skip
         first | replace Fk2 := Fk2.mv1 G206 (by omega) | clear Fk2 | skip
         first | replace Fk63 := Fk63.mv1 G206 (by omega) | clear Fk63 | skip
         replace HG := HG.n1 G206
         clear G206
         have Fk23 := Fs207; clear Fs207
         simp only [V.spliceL, V.cellsL] at Fk23
         refine V.run T_ok 1 rfl ?_
         refine V.nil ?_
         refine V.tN ?_
         refine V.ret ?_
         refine V.bR ?_
         refine V.tR ?_
         refine V.done2 rfl (V.resV_cell T_ok Fk23 rfl rfl) (V.resV_tmp rfl) ?_
         first
           | rw [show rPush d mi me sw sl nw nl pr = (d, 121) by simp only [rPush, stR]; grind [decR]]
         exact ⟨a29, c30, (by first | rfl | simp only [List.length_set]), F31.re, HG⟩
        ·
         try replace h11 := V.dec h11
         try simp only [V.mk0, V.mk1, V.mk2, V.mk3] at h11
         refine V.seq ?_
         refine V.region ?_
         refine V.run T_ok 1 rfl ?_
         refine V.loadO T_ok Fk2 rfl rfl rfl rfl rfl ?_
         refine V.run T_ok 2 rfl ?_
         refine V.nil ?_
         refine V.tN ?_
         refine V.condT rfl (fun h13 => ?_) (fun h13 => ?_)
         ·
          try replace h13 := V.dec h13
          try simp only [V.mk0, V.mk1, V.mk2, V.mk3] at h13
          refine V.seq ?_
          refine V.region ?_
          refine V.loadO T_ok Fk2 rfl rfl rfl rfl rfl ?_
          refine V.storeO Fk23 rfl rfl rfl rfl sz27 rfl rfl rfl rfl ?_
          rintro w210 G211 z213 Fs212
          clear Fk23
          have z214 := V.Fr.size G211
          first | replace F_o := F_o.mb G211 hD_o | clear F_o | skip
          first | replace Fk9 := Fk9.mv1 G211 (by omega) | clear Fk9 | skip
          first | replace Fk16 := Fk16.mv1 G211 (by omega) | clear Fk16 | skip
          first | replace F31 := F31.ma G211 | clear F31 | skip
          first | replace Fk2 := Fk2.mv1 G211 (by omega) | clear Fk2 | skip
          first | replace Fk63 := Fk63.mv1 G211 (by omega) | clear Fk63 | skip
          replace HG := HG.n1 G211
          clear G211
          have Fk23 := Fs212; clear Fs212
          simp only [V.spliceL, V.cellsL] at Fk23
          refine V.run T_ok 1 rfl ?_
          refine V.nil ?_
          refine V.tN ?_
          refine V.ret ?_
          refine V.bR ?_
          refine V.tR ?_
          refine V.done2 rfl (V.resV_cell T_ok Fk23 rfl rfl) (V.resV_tmp rfl) ?_
          first
            | rw [show rPush d mi me sw sl nw nl pr = (d, 123) by simp only [rPush, stR]; grind [decR]]
          exact ⟨a29, c30, (by first | rfl | simp only [List.length_set]), F31.re, HG⟩
         ·
          try replace h13 := V.dec h13
          try simp only [V.mk0, V.mk1, V.mk2, V.mk3] at h13
          refine V.skip ?_
          refine V.bN ?_
          refine V.tN ?_
          refine V.seq ?_
          refine V.region ?_
          refine V.loadO T_ok Fk2 rfl rfl rfl rfl rfl ?_
          refine V.run T_ok 1 rfl ?_
          refine V.loadO T_ok Fk2 rfl rfl rfl rfl rfl ?_
          refine V.run T_ok 1 rfl ?_
          refine V.loadO T_ok Fk9 rfl rfl rfl rfl rfl ?_
          refine V.run T_ok 1 rfl ?_
          refine V.mkStruct T_ok zero24 rfl rfl rfl rfl rfl ?_
          refine V.call (decided_spec (ep := (max d.ep me)) (aw := 0) (al := 0) (c := false) (d := d) F31 (fun k hk => by have := hk.2; omega)) rfl rfl rfl ?_
          rintro _ w218 ⟨a215, c216, rfl, F217, G219⟩
          have z220 := V.Fr.size G219
          try replace F_o := F_o.gr G219
          try replace Fk9 := Fk9.gr G219
          try replace Fk16 := Fk16.gr G219
          try replace Fk23 := Fk23.gr G219
          try replace F31 := F31.gr G219
          try replace Fk2 := Fk2.gr G219
          try replace Fk63 := Fk63.gr G219
          replace HG := HG.grow G219
          clear G219
          refine V.storeO Fk23 rfl rfl rfl rfl sz27 rfl rfl rfl rfl ?_
          rintro w221 G222 z224 Fs223
          clear Fk23
          have z225 := V.Fr.size G222
          first | replace F_o := F_o.mb G222 hD_o | clear F_o | skip
          first | replace Fk9 := Fk9.mv1 G222 (by omega) | clear Fk9 | skip
          first | replace Fk16 := Fk16.mv1 G222 (by omega) | clear Fk16 | skip
          first | replace F31 := F31.ma G222 | clear F31 | skip
          first | replace Fk2 := Fk2.mv1 G222 (by omega) | clear Fk2 | skip
          first | replace Fk63 := Fk63.mv1 G222 (by omega) | clear Fk63 | skip
          first | replace F217 := F217.ma G222 | clear F217 | skip
          replace HG := HG.n1 G222
          clear G222
          have Fk23 := Fs223; clear Fs223
          simp only [V.spliceL, V.cellsL] at Fk23
          refine V.run T_ok 1 rfl ?_
          refine V.nil ?_
          refine V.tN ?_
          refine V.ret ?_
          refine V.done2 rfl (V.resV_cell T_ok Fk23 rfl rfl) (V.resV_tmp rfl) ?_
          first
            | rw [show rPush d mi me sw sl nw nl pr = (decR d (max d.ep me) 0 0 false, 0) by simp only [rPush, stR]; grind [decR]]
          exact ⟨a215, c216, (by first | rfl | simp only [List.length_set]), F217.re, HG⟩
       ·
        try replace g11_4 := V.dec g11_4
        try simp only [V.mk0, V.mk1, V.mk2, V.mk3] at g11_4
        refine V.run T_ok 8 rfl ?_
        refine V.nil ?_
        refine V.tN ?_
        refine V.condN rfl rfl ?_
        refine V.seq ?_
        refine V.region ?_
        refine V.run T_ok 1 rfl ?_
        refine V.loadO T_ok Fk2 rfl rfl rfl rfl rfl ?_
        refine V.run T_ok 2 rfl ?_
        refine V.nil ?_
        refine V.tN ?_
        refine V.condT rfl (fun h13 => ?_) (fun h13 => ?_)
        ·
         try replace h13 := V.dec h13
         try simp only [V.mk0, V.mk1, V.mk2, V.mk3] at h13
         refine V.seq ?_
         refine V.region ?_
         refine V.loadO T_ok Fk2 rfl rfl rfl rfl rfl ?_
         refine V.storeO Fk23 rfl rfl rfl rfl sz27 rfl rfl rfl rfl ?_
         rintro w226 G227 z229 Fs228
         clear Fk23
         have z230 := V.Fr.size G227
         first | replace F_o := F_o.mb G227 hD_o | clear F_o | skip
         first | replace Fk9 := Fk9.mv1 G227 (by omega) | clear Fk9 | skip
         first | replace Fk16 := Fk16.mv1 G227 (by omega) | clear Fk16 | skip
         first | replace F31 := F31.ma G227 | clear F31 | skip
         first | replace Fk2 := Fk2.mv1 G227 (by omega) | clear Fk2 | skip
         first | replace Fk63 := Fk63.mv1 G227 (by omega) | clear Fk63 | skip
         replace HG := HG.n1 G227
         clear G227
         have Fk23 := Fs228; clear Fs228
         simp only [V.spliceL, V.cellsL] at Fk23
         refine V.run T_ok 1 rfl ?_
         refine V.nil ?_
         refine V.tN ?_
         refine V.ret ?_
         refine V.bR ?_
         refine V.tR ?_
         refine V.done2 rfl (V.resV_cell T_ok Fk23 rfl rfl) (V.resV_tmp rfl) ?_
         first
           | rw [show rPush d mi me sw sl nw nl pr = (d, 123) by simp only [rPush, stR]; grind [decR]]
         exact ⟨a29, c30, (by first | rfl | simp only [List.length_set]), F31.re, HG⟩
        ·
         try replace h13 := V.dec h13
         try simp only [V.mk0, V.mk1, V.mk2, V.mk3] at h13
         refine V.skip ?_
         refine V.bN ?_
         refine V.tN ?_
         refine V.seq ?_
         refine V.region ?_
         refine V.loadO T_ok Fk2 rfl rfl rfl rfl rfl ?_
         refine V.run T_ok 1 rfl ?_
         refine V.loadO T_ok Fk2 rfl rfl rfl rfl rfl ?_
         refine V.run T_ok 1 rfl ?_
         refine V.loadO T_ok Fk9 rfl rfl rfl rfl rfl ?_
         refine V.run T_ok 1 rfl ?_
         refine V.mkStruct T_ok zero24 rfl rfl rfl rfl rfl ?_
         refine V.call (decided_spec (ep := (max d.ep me)) (aw := 0) (al := 0) (c := false) (d := d) F31 (fun k hk => by have := hk.2; omega)) rfl rfl rfl ?_
         rintro _ w234 ⟨a231, c232, rfl, F233, G235⟩
         have z236 := V.Fr.size G235
         try replace F_o := F_o.gr G235
         try replace Fk9 := Fk9.gr G235
         try replace Fk16 := Fk16.gr G235
         try replace Fk23 := Fk23.gr G235
         try replace F31 := F31.gr G235
         try replace Fk2 := Fk2.gr G235
         try replace Fk63 := Fk63.gr G235
         replace HG := HG.grow G235
         clear G235
         refine V.storeO Fk23 rfl rfl rfl rfl sz27 rfl rfl rfl rfl ?_
         rintro w237 G238 z240 Fs239
         clear Fk23
         have z241 := V.Fr.size G238
         first | replace F_o := F_o.mb G238 hD_o | clear F_o | skip
         first | replace Fk9 := Fk9.mv1 G238 (by omega) | clear Fk9 | skip
         first | replace Fk16 := Fk16.mv1 G238 (by omega) | clear Fk16 | skip
         first | replace F31 := F31.ma G238 | clear F31 | skip
         first | replace Fk2 := Fk2.mv1 G238 (by omega) | clear Fk2 | skip
         first | replace Fk63 := Fk63.mv1 G238 (by omega) | clear Fk63 | skip
         first | replace F233 := F233.ma G238 | clear F233 | skip
         replace HG := HG.n1 G238
         clear G238
         have Fk23 := Fs239; clear Fs239
         simp only [V.spliceL, V.cellsL] at Fk23
         refine V.run T_ok 1 rfl ?_
         refine V.nil ?_
         refine V.tN ?_
         refine V.ret ?_
         refine V.done2 rfl (V.resV_cell T_ok Fk23 rfl rfl) (V.resV_tmp rfl) ?_
         first
           | rw [show rPush d mi me sw sl nw nl pr = (decR d (max d.ep me) 0 0 false, 0) by simp only [rPush, stR]; grind [decR]]
         exact ⟨a231, c232, (by first | rfl | simp only [List.length_set]), F233.re, HG⟩

set_option maxHeartbeats 4000000 in
set_option maxRecDepth 10000 in
theorem rpush_spec {w : World} {d : RecV} {D_o : Nat → Prop} {c_o : Nat} {a_o : Option Addr} (F_o : Sl V.Cod.write w D_o a_o c_o d.ws) (hD_o : ∀ k, D_o k → k < w.heap.size) {mi : Int} {me : Int} {an : ByteArray} {sw : Int} {sl : Int} {nw : Int} {nl : Int} {pr : Int} (hl : d.ws.length ≤ 5864062014805) :
    Meets Try.prog 36 [.agg #[.int .i64 d.id, .int .i64 d.ep, .int .i64 d.st, .int .i64 d.aw, .int .i64 d.al, .int .i64 d.bw, .int .i64 d.bl, .slice a_o d.ws.length c_o], .agg #[.int .i64 mi, .int .i64 me, .string an, .int .i64 sw, .int .i64 sl], .agg #[.int .i64 nw, .int .i64 nl], .int .i64 pr] w fun r w' => ∃ (ra27 : Option Addr) (rc27 : Nat), r = .tuple #[.agg #[.int .i64 ((rPush d mi me sw sl nw nl pr).1.id), .int .i64 ((rPush d mi me sw sl nw nl pr).1.ep), .int .i64 ((rPush d mi me sw sl nw nl pr).1.st), .int .i64 ((rPush d mi me sw sl nw nl pr).1.aw), .int .i64 ((rPush d mi me sw sl nw nl pr).1.al), .int .i64 ((rPush d mi me sw sl nw nl pr).1.bw), .int .i64 ((rPush d mi me sw sl nw nl pr).1.bl), .slice ra27 ((rPush d mi me sw sl nw nl pr).1.ws).length rc27], .int .i64 ((rPush d mi me sw sl nw nl pr).2)] ∧ Sl V.Cod.write w' (V.In w.heap.size w'.heap.size) ra27 rc27 ((rPush d mi me sw sl nw nl pr).1.ws) ∧ Gr w w' := by
 have HG := V.Fr.refl [] w
 refine V.enter (n := 76) Try.func36 rfl rfl (by decide) rfl ?_
 refine V.seq ?_
 refine V.region ?_
 refine V.box rfl rfl rfl rfl ?_
 rintro k1 w3 s5 s6 G4 Fk2
 have z7 := V.Fr.size G4
 try replace F_o := F_o.gr G4
 replace HG := HG.grow G4
 clear G4
 try simp only [V.cellsL, V.spliceL] at Fk2
 refine V.box rfl rfl rfl rfl ?_
 rintro k8 w10 s12 s13 G11 Fk9
 have z14 := V.Fr.size G11
 try replace F_o := F_o.gr G11
 try replace Fk2 := Fk2.gr G11
 replace HG := HG.grow G11
 clear G11
 try simp only [V.cellsL, V.spliceL] at Fk9
 refine V.box rfl rfl rfl rfl ?_
 rintro k15 w17 s19 s20 G18 Fk16
 have z21 := V.Fr.size G18
 try replace F_o := F_o.gr G18
 try replace Fk2 := Fk2.gr G18
 try replace Fk9 := Fk9.gr G18
 replace HG := HG.grow G18
 clear G18
 try simp only [V.cellsL, V.spliceL] at Fk16
 refine V.alloc zero27 rfl rfl rfl ?_
 rintro k22 w24 s26 s27 G25 Fk23
 have z28 := V.Fr.size G25
 try replace F_o := F_o.gr G25
 try replace Fk2 := Fk2.gr G25
 try replace Fk9 := Fk9.gr G25
 try replace Fk16 := Fk16.gr G25
 replace HG := HG.grow G25
 clear G25
 try simp only [V.cellsL, V.spliceL] at Fk23
 refine V.run T_ok 1 rfl ?_
 refine V.nil ?_
 refine V.tN ?_
 refine V.seq ?_
 refine V.region ?_
 refine V.loadO T_ok Fk2 rfl rfl rfl rfl rfl ?_
 refine V.call (copy_spec (d := d) F_o (fun k hk => by have := hD_o k hk; omega) (by first | assumption | omega | decide)) rfl rfl rfl ?_
 rintro _ w32 ⟨a29, c30, rfl, F31, G33⟩
 have z34 := V.Fr.size G33
 try replace F_o := F_o.gr G33
 try replace Fk2 := Fk2.gr G33
 try replace Fk9 := Fk9.gr G33
 try replace Fk16 := Fk16.gr G33
 try replace Fk23 := Fk23.gr G33
 replace HG := HG.grow G33
 clear G33
 refine V.alloc zero27 rfl rfl rfl ?_
 rintro k35 w37 s39 s40 G38 Fk36
 have z41 := V.Fr.size G38
 try replace F_o := F_o.gr G38
 try replace Fk2 := Fk2.gr G38
 try replace Fk9 := Fk9.gr G38
 try replace Fk16 := Fk16.gr G38
 try replace Fk23 := Fk23.gr G38
 try replace F31 := F31.gr G38
 replace HG := HG.grow G38
 clear G38
 try simp only [V.cellsL, V.spliceL] at Fk36
 refine V.storeO Fk36 rfl rfl rfl rfl sz27 rfl rfl rfl rfl ?_
 rintro w42 G43 z45 Fs44
 clear Fk36
 have z46 := V.Fr.size G43
 first | replace F_o := F_o.mb G43 hD_o | clear F_o | skip
 first | replace Fk2 := Fk2.mv1 G43 (by omega) | clear Fk2 | skip
 first | replace Fk9 := Fk9.mv1 G43 (by omega) | clear Fk9 | skip
 first | replace Fk16 := Fk16.mv1 G43 (by omega) | clear Fk16 | skip
 first | replace Fk23 := Fk23.mv1 G43 (by omega) | clear Fk23 | skip
 first | replace F31 := F31.ma G43 | clear F31 | skip
 replace HG := HG.n1 G43
 clear G43
 have Fk36 := Fs44; clear Fs44
 simp only [V.spliceL, V.cellsL] at Fk36
 refine V.nil ?_
 refine V.tN ?_
 refine V.seq ?_
 refine V.region ?_
 refine V.run T_ok 1 rfl ?_
 refine V.loadO T_ok Fk9 rfl rfl rfl rfl rfl ?_
 refine V.call (rnumber_ok (n := me)) rfl rfl rfl ?_
 rintro _ w42_ ⟨rfl, rfl⟩
 refine V.run T_ok 1 rfl ?_
 refine V.nil ?_
 refine V.tN ?_
 refine V.seq ?_
 refine V.region ?_
 refine V.loadO T_ok Fk16 rfl rfl rfl rfl rfl ?_
 refine V.call (rright_spec (a := nw) (b := nl)) rfl rfl rfl ?_
 rintro _ w48 ⟨rfl, G49⟩
 have z50 := V.Fr.size G49
 try replace F_o := F_o.gr G49
 try replace Fk2 := Fk2.gr G49
 try replace Fk9 := Fk9.gr G49
 try replace Fk16 := Fk16.gr G49
 try replace Fk23 := Fk23.gr G49
 try replace F31 := F31.gr G49
 try replace Fk36 := Fk36.gr G49
 replace HG := HG.grow G49
 clear G49
 refine V.run T_ok 1 rfl ?_
 refine V.split (j := 2) (t := 21) rfl rfl (fun g3_2 => ?_) (fun g3_2 => ?_)
 ·
  try replace g3_2 := V.dec g3_2
  try simp only [V.mk0, V.mk1, V.mk2, V.mk3] at g3_2
  refine V.run T_ok 1 rfl ?_
  refine V.yes rfl rfl rfl ?_
  refine V.loadO T_ok Fk9 rfl rfl rfl rfl rfl ?_
  refine V.yes rfl rfl rfl ?_
  refine V.call (rright_spec (a := sw) (b := sl)) rfl rfl rfl ?_
  rintro _ w51 ⟨rfl, G52⟩
  have z53 := V.Fr.size G52
  try replace F_o := F_o.gr G52
  try replace Fk2 := Fk2.gr G52
  try replace Fk9 := Fk9.gr G52
  try replace Fk16 := Fk16.gr G52
  try replace Fk23 := Fk23.gr G52
  try replace F31 := F31.gr G52
  try replace Fk36 := Fk36.gr G52
  replace HG := HG.grow G52
  clear G52
  refine V.run T_ok 2 rfl ?_
  refine V.nil ?_
  refine V.tN ?_
  refine V.seq ?_
  refine V.seq ?_
  refine V.region ?_
  refine V.run T_ok 3 rfl ?_
  refine V.orG T_ok 2 2 28 rfl rfl rfl rfl rfl rfl rfl rfl ?_
  refine V.nil ?_
  refine V.tN ?_
  refine V.condT rfl (fun h4 => ?_) (fun h4 => ?_)
  ·
   try replace h4 := V.dec h4
   try simp only [V.mk0, V.mk1, V.mk2, V.mk3] at h4
   refine V.seq ?_
   refine V.region ?_
   refine V.loadO T_ok Fk36 rfl rfl rfl rfl rfl ?_
   refine V.storeO Fk23 rfl rfl rfl rfl sz27 rfl rfl rfl rfl ?_
   rintro w54 G55 z57 Fs56
   clear Fk23
   have z58 := V.Fr.size G55
   first | replace F_o := F_o.mb G55 hD_o | clear F_o | skip
   first | replace Fk2 := Fk2.mv1 G55 (by omega) | clear Fk2 | skip
   first | replace Fk9 := Fk9.mv1 G55 (by omega) | clear Fk9 | skip
   first | replace Fk16 := Fk16.mv1 G55 (by omega) | clear Fk16 | skip
   first | replace F31 := F31.ma G55 | clear F31 | skip
   first | replace Fk36 := Fk36.mv1 G55 (by omega) | clear Fk36 | skip
   replace HG := HG.n1 G55
   clear G55
   have Fk23 := Fs56; clear Fs56
   simp only [V.spliceL, V.cellsL] at Fk23
   refine V.run T_ok 1 rfl ?_
   refine V.nil ?_
   refine V.tN ?_
   refine V.ret ?_
   refine V.tR ?_
   refine V.done2 rfl (V.resV_cell T_ok Fk23 rfl rfl) (V.resV_tmp rfl) ?_
   first
     | rw [show rPush d mi me sw sl nw nl pr = (d, 1) by simp only [rPush, stR]; grind [decR]]
   exact ⟨a29, c30, (by first | rfl | simp only [List.length_set]), F31.re, HG⟩
  ·
   try replace h4 := V.dec h4
   try simp only [V.mk0, V.mk1, V.mk2, V.mk3] at h4
   refine V.skip ?_
   refine V.tN ?_
   refine V.seq ?_
   refine V.seq ?_
   refine V.region ?_
   refine V.run T_ok 1 rfl ?_
   refine V.loadO T_ok Fk2 rfl rfl rfl rfl rfl ?_
   refine V.run T_ok 2 rfl ?_
   refine V.split (j := 3) (t := 36) rfl rfl (fun g6_3 => ?_) (fun g6_3 => ?_)
   ·
    try replace g6_3 := V.dec g6_3
    try simp only [V.mk0, V.mk1, V.mk2, V.mk3] at g6_3
    refine V.run T_ok 4 rfl ?_
    refine V.nil ?_
    refine V.tN ?_
    refine V.condY rfl rfl ?_
    refine V.seq ?_
    refine V.region ?_
    refine V.loadO T_ok Fk36 rfl rfl rfl rfl rfl ?_
    refine V.storeO Fk23 rfl rfl rfl rfl sz27 rfl rfl rfl rfl ?_
    rintro w59 G60 z62 Fs61
    clear Fk23
    have z63 := V.Fr.size G60
    first | replace F_o := F_o.mb G60 hD_o | clear F_o | skip
    first | replace Fk2 := Fk2.mv1 G60 (by omega) | clear Fk2 | skip
    first | replace Fk9 := Fk9.mv1 G60 (by omega) | clear Fk9 | skip
    first | replace Fk16 := Fk16.mv1 G60 (by omega) | clear Fk16 | skip
    first | replace F31 := F31.ma G60 | clear F31 | skip
    first | replace Fk36 := Fk36.mv1 G60 (by omega) | clear Fk36 | skip
    replace HG := HG.n1 G60
    clear G60
    have Fk23 := Fs61; clear Fs61
    simp only [V.spliceL, V.cellsL] at Fk23
    refine V.run T_ok 1 rfl ?_
    refine V.nil ?_
    refine V.tN ?_
    refine V.ret ?_
    refine V.tR ?_
    refine V.done2 rfl (V.resV_cell T_ok Fk23 rfl rfl) (V.resV_tmp rfl) ?_
    first
      | rw [show rPush d mi me sw sl nw nl pr = (d, 0) by simp only [rPush, stR]; grind [decR]]
    exact ⟨a29, c30, (by first | rfl | simp only [List.length_set]), F31.re, HG⟩
   ·
    try replace g6_3 := V.dec g6_3
    try simp only [V.mk0, V.mk1, V.mk2, V.mk3] at g6_3
    refine V.run T_ok 1 rfl ?_
    refine V.yes rfl rfl rfl ?_
    refine V.loadO T_ok Fk2 rfl rfl rfl rfl rfl ?_
    refine V.run T_ok 2 rfl ?_
    refine V.nil ?_
    refine V.tN ?_
    refine V.condT rfl (fun h6 => ?_) (fun h6 => ?_)
    ·
     try replace h6 := V.dec h6
     try simp only [V.mk0, V.mk1, V.mk2, V.mk3] at h6
     refine V.seq ?_
     refine V.region ?_
     refine V.loadO T_ok Fk36 rfl rfl rfl rfl rfl ?_
     refine V.storeO Fk23 rfl rfl rfl rfl sz27 rfl rfl rfl rfl ?_
     rintro w64 G65 z67 Fs66
     clear Fk23
     have z68 := V.Fr.size G65
     first | replace F_o := F_o.mb G65 hD_o | clear F_o | skip
     first | replace Fk2 := Fk2.mv1 G65 (by omega) | clear Fk2 | skip
     first | replace Fk9 := Fk9.mv1 G65 (by omega) | clear Fk9 | skip
     first | replace Fk16 := Fk16.mv1 G65 (by omega) | clear Fk16 | skip
     first | replace F31 := F31.ma G65 | clear F31 | skip
     first | replace Fk36 := Fk36.mv1 G65 (by omega) | clear Fk36 | skip
     replace HG := HG.n1 G65
     clear G65
     have Fk23 := Fs66; clear Fs66
     simp only [V.spliceL, V.cellsL] at Fk23
     refine V.run T_ok 1 rfl ?_
     refine V.nil ?_
     refine V.tN ?_
     refine V.ret ?_
     refine V.tR ?_
     refine V.done2 rfl (V.resV_cell T_ok Fk23 rfl rfl) (V.resV_tmp rfl) ?_
     first
       | rw [show rPush d mi me sw sl nw nl pr = (d, 0) by simp only [rPush, stR]; grind [decR]]
     exact ⟨a29, c30, (by first | rfl | simp only [List.length_set]), F31.re, HG⟩
    ·
     try replace h6 := V.dec h6
     try simp only [V.mk0, V.mk1, V.mk2, V.mk3] at h6
     refine V.skip ?_
     refine V.tN ?_
     refine V.seq ?_
     refine V.region ?_
     refine V.run T_ok 1 rfl ?_
     refine V.loadO T_ok Fk2 rfl rfl rfl rfl rfl ?_
     refine V.alloc zero24 rfl rfl rfl ?_
     rintro k69 w71 s73 s74 G72 Fk70
     have z75 := V.Fr.size G72
     try replace F_o := F_o.gr G72
     try replace Fk2 := Fk2.gr G72
     try replace Fk9 := Fk9.gr G72
     try replace Fk16 := Fk16.gr G72
     try replace Fk23 := Fk23.gr G72
     try replace F31 := F31.gr G72
     try replace Fk36 := Fk36.gr G72
     replace HG := HG.grow G72
     clear G72
     try simp only [V.cellsL, V.spliceL] at Fk70
     refine V.storeO Fk70 rfl rfl rfl rfl sz24 rfl rfl rfl rfl ?_
     rintro w76 G77 z79 Fs78
     clear Fk70
     have z80 := V.Fr.size G77
     first | replace F_o := F_o.mb G77 hD_o | clear F_o | skip
     first | replace Fk2 := Fk2.mv1 G77 (by omega) | clear Fk2 | skip
     first | replace Fk9 := Fk9.mv1 G77 (by omega) | clear Fk9 | skip
     first | replace Fk16 := Fk16.mv1 G77 (by omega) | clear Fk16 | skip
     first | replace Fk23 := Fk23.mv1 G77 (by omega) | clear Fk23 | skip
     first | replace F31 := F31.ma G77 | clear F31 | skip
     first | replace Fk36 := Fk36.mv1 G77 (by omega) | clear Fk36 | skip
     replace HG := HG.n1 G77
     clear G77
     have Fk70 := Fs78; clear Fs78
     simp only [V.spliceL, V.cellsL] at Fk70
     refine V.nil ?_
     refine V.tN ?_
     refine V.seq ?_
     refine V.seq ?_
     refine V.region ?_
     refine V.run T_ok 1 rfl ?_
     refine V.loadO T_ok Fk2 rfl rfl rfl rfl rfl ?_
     refine V.run T_ok 1 rfl ?_
     refine V.nil ?_
     refine V.tN ?_
     refine V.condT rfl (fun h9 => ?_) (fun h9 => ?_)
     ·
      try replace h9 := V.dec h9
      try simp only [V.mk0, V.mk1, V.mk2, V.mk3] at h9
      refine V.region ?_
      refine V.run T_ok 1 rfl ?_
      refine V.loadO T_ok Fk9 rfl rfl rfl rfl rfl ?_
      refine V.storeO Fk70 rfl rfl rfl rfl sz24 rfl rfl rfl rfl ?_
      rintro w81 G82 z84 Fs83
      clear Fk70
      have z85 := V.Fr.size G82
      first | replace F_o := F_o.mb G82 hD_o | clear F_o | skip
      first | replace Fk2 := Fk2.mv1 G82 (by omega) | clear Fk2 | skip
      first | replace Fk9 := Fk9.mv1 G82 (by omega) | clear Fk9 | skip
      first | replace Fk16 := Fk16.mv1 G82 (by omega) | clear Fk16 | skip
      first | replace Fk23 := Fk23.mv1 G82 (by omega) | clear Fk23 | skip
      first | replace F31 := F31.ma G82 | clear F31 | skip
      first | replace Fk36 := Fk36.mv1 G82 (by omega) | clear Fk36 | skip
      replace HG := HG.n1 G82
      clear G82
      have Fk70 := Fs83; clear Fs83
      simp only [V.spliceL, V.cellsL] at Fk70
      refine V.nil ?_
      refine V.tN ?_
      refine V.seq ?_
      refine V.seq ?_
      refine V.region ?_
      refine V.run T_ok 2 rfl ?_
      refine V.loadO T_ok Fk9 rfl rfl rfl rfl rfl ?_
      refine V.run T_ok 2 rfl ?_
      refine V.split (j := 4) (t := 53) rfl rfl (fun g11_4 => ?_) (fun g11_4 => ?_)
      ·
       try replace g11_4 := V.dec g11_4
       try simp only [V.mk0, V.mk1, V.mk2, V.mk3] at g11_4
       refine V.run T_ok 1 rfl ?_
       refine V.yes rfl rfl rfl ?_
       refine V.loadO T_ok Fk70 rfl rfl rfl rfl rfl ?_
       refine V.yes rfl rfl rfl ?_
       refine V.run T_ok 1 rfl ?_
       refine V.run T_ok 1 rfl ?_
       refine V.yes rfl rfl rfl ?_
       refine V.loadO T_ok Fk16 rfl rfl rfl rfl rfl ?_
       refine V.run T_ok 2 rfl ?_
       refine V.nil ?_
       refine V.tN ?_
       refine V.condT rfl (fun h11 => ?_) (fun h11 => ?_)
       ·
        try replace h11 := V.dec h11
        try simp only [V.mk0, V.mk1, V.mk2, V.mk3] at h11
        refine V.seq ?_
        refine V.region ?_
        refine V.loadO T_ok Fk36 rfl rfl rfl rfl rfl ?_
        refine V.storeO Fk23 rfl rfl rfl rfl sz27 rfl rfl rfl rfl ?_
        rintro w86 G87 z89 Fs88
        clear Fk23
        have z90 := V.Fr.size G87
        first | replace F_o := F_o.mb G87 hD_o | clear F_o | skip
        first | replace Fk2 := Fk2.mv1 G87 (by omega) | clear Fk2 | skip
        first | replace Fk9 := Fk9.mv1 G87 (by omega) | clear Fk9 | skip
        first | replace Fk16 := Fk16.mv1 G87 (by omega) | clear Fk16 | skip
        first | replace F31 := F31.ma G87 | clear F31 | skip
        first | replace Fk36 := Fk36.mv1 G87 (by omega) | clear Fk36 | skip
        first | replace Fk70 := Fk70.mv1 G87 (by omega) | clear Fk70 | skip
        replace HG := HG.n1 G87
        clear G87
        have Fk23 := Fs88; clear Fs88
        simp only [V.spliceL, V.cellsL] at Fk23
        refine V.run T_ok 1 rfl ?_
        refine V.nil ?_
        refine V.tN ?_
        refine V.ret ?_
        refine V.tR ?_
        refine V.done2 rfl (V.resV_cell T_ok Fk23 rfl rfl) (V.resV_tmp rfl) ?_
        first
          | rw [show rPush d mi me sw sl nw nl pr = (d, 121) by simp only [rPush, stR]; grind [decR]]
        exact ⟨a29, c30, (by first | rfl | simp only [List.length_set]), F31.re, HG⟩
       ·
        try replace h11 := V.dec h11
        try simp only [V.mk0, V.mk1, V.mk2, V.mk3] at h11
        refine V.skip ?_
        refine V.tN ?_
        refine V.seq ?_
        refine V.seq ?_
        refine V.region ?_
        refine V.run T_ok 1 rfl ?_
        refine V.loadO T_ok Fk2 rfl rfl rfl rfl rfl ?_
        refine V.run T_ok 1 rfl ?_
        refine V.nil ?_
        refine V.tN ?_
        refine V.condT rfl (fun h13 => ?_) (fun h13 => ?_)
        ·
         try replace h13 := V.dec h13
         try simp only [V.mk0, V.mk1, V.mk2, V.mk3] at h13
         refine V.seq ?_
         refine V.region ?_
         refine V.loadO T_ok Fk36 rfl rfl rfl rfl rfl ?_
         refine V.storeO Fk23 rfl rfl rfl rfl sz27 rfl rfl rfl rfl ?_
         rintro w91 G92 z94 Fs93
         clear Fk23
         have z95 := V.Fr.size G92
         first | replace F_o := F_o.mb G92 hD_o | clear F_o | skip
         first | replace Fk2 := Fk2.mv1 G92 (by omega) | clear Fk2 | skip
         first | replace Fk9 := Fk9.mv1 G92 (by omega) | clear Fk9 | skip
         first | replace Fk16 := Fk16.mv1 G92 (by omega) | clear Fk16 | skip
         first | replace F31 := F31.ma G92 | clear F31 | skip
         first | replace Fk36 := Fk36.mv1 G92 (by omega) | clear Fk36 | skip
         first | replace Fk70 := Fk70.mv1 G92 (by omega) | clear Fk70 | skip
         replace HG := HG.n1 G92
         clear G92
         have Fk23 := Fs93; clear Fs93
         simp only [V.spliceL, V.cellsL] at Fk23
         refine V.run T_ok 1 rfl ?_
         refine V.nil ?_
         refine V.tN ?_
         refine V.ret ?_
         refine V.tR ?_
         refine V.done2 rfl (V.resV_cell T_ok Fk23 rfl rfl) (V.resV_tmp rfl) ?_
         first
           | rw [show rPush d mi me sw sl nw nl pr = (d, 123) by simp only [rPush, stR]; grind [decR]]
         exact ⟨a29, c30, (by first | rfl | simp only [List.length_set]), F31.re, HG⟩
        ·
         try replace h13 := V.dec h13
         try simp only [V.mk0, V.mk1, V.mk2, V.mk3] at h13
         refine V.skip ?_
         refine V.tN ?_
         refine V.seq ?_
         refine V.region ?_
         refine V.run T_ok 1 rfl ?_
         refine V.loadO T_ok Fk2 rfl rfl rfl rfl rfl ?_
         refine V.run T_ok 1 rfl ?_
         refine V.loadO T_ok Fk2 rfl rfl rfl rfl rfl ?_
         refine V.run T_ok 1 rfl ?_
         refine V.loadO T_ok Fk9 rfl rfl rfl rfl rfl ?_
         refine V.run T_ok 2 rfl ?_
         refine V.loadO T_ok Fk2 rfl rfl rfl rfl rfl ?_
         refine V.mkStruct T_ok zero27 rfl rfl rfl rfl rfl ?_
         refine V.storeO Fk23 rfl rfl rfl rfl sz27 rfl rfl rfl rfl ?_
         rintro w96 G97 z99 Fs98
         clear Fk23
         have z100 := V.Fr.size G97
         first | replace F_o := F_o.mb G97 hD_o | clear F_o | skip
         first | replace Fk2 := Fk2.mv1 G97 (by omega) | clear Fk2 | skip
         first | replace Fk9 := Fk9.mv1 G97 (by omega) | clear Fk9 | skip
         first | replace Fk16 := Fk16.mv1 G97 (by omega) | clear Fk16 | skip
         first | replace F31 := F31.ma G97 | clear F31 | skip
         first | replace Fk36 := Fk36.mv1 G97 (by omega) | clear Fk36 | skip
         first | replace Fk70 := Fk70.mv1 G97 (by omega) | clear Fk70 | skip
         replace HG := HG.n1 G97
         clear G97
         have Fk23 := Fs98; clear Fs98
         simp only [V.spliceL, V.cellsL] at Fk23
         refine V.run T_ok 1 rfl ?_
         refine V.nil ?_
         refine V.tN ?_
         refine V.ret ?_
         refine V.done2 rfl (V.resV_cell T_ok Fk23 rfl rfl) (V.resV_tmp rfl) ?_
         first
           | rw [show rPush d mi me sw sl nw nl pr = (⟨d.id, max d.ep me, 4, 0, 0, d.bw, d.bl, []⟩, 0) by simp only [rPush, stR]; grind [decR]]
         exact ⟨none, 0, (by first | rfl | simp only [List.length_set]), (Sl.nil _ _ _ _ _ (Nat.zero_le _)), HG⟩
      ·
       try replace g11_4 := V.dec g11_4
       try simp only [V.mk0, V.mk1, V.mk2, V.mk3] at g11_4
       refine V.run T_ok 7 rfl ?_
       refine V.nil ?_
       refine V.tN ?_
       refine V.condN rfl rfl ?_
       refine V.skip ?_
       refine V.tN ?_
       refine V.seq ?_
       refine V.seq ?_
       refine V.region ?_
       refine V.run T_ok 1 rfl ?_
       refine V.loadO T_ok Fk2 rfl rfl rfl rfl rfl ?_
       refine V.run T_ok 1 rfl ?_
       refine V.nil ?_
       refine V.tN ?_
       refine V.condT rfl (fun h13 => ?_) (fun h13 => ?_)
       ·
        try replace h13 := V.dec h13
        try simp only [V.mk0, V.mk1, V.mk2, V.mk3] at h13
        refine V.seq ?_
        refine V.region ?_
        refine V.loadO T_ok Fk36 rfl rfl rfl rfl rfl ?_
        refine V.storeO Fk23 rfl rfl rfl rfl sz27 rfl rfl rfl rfl ?_
        rintro w101 G102 z104 Fs103
        clear Fk23
        have z105 := V.Fr.size G102
        first | replace F_o := F_o.mb G102 hD_o | clear F_o | skip
        first | replace Fk2 := Fk2.mv1 G102 (by omega) | clear Fk2 | skip
        first | replace Fk9 := Fk9.mv1 G102 (by omega) | clear Fk9 | skip
        first | replace Fk16 := Fk16.mv1 G102 (by omega) | clear Fk16 | skip
        first | replace F31 := F31.ma G102 | clear F31 | skip
        first | replace Fk36 := Fk36.mv1 G102 (by omega) | clear Fk36 | skip
        first | replace Fk70 := Fk70.mv1 G102 (by omega) | clear Fk70 | skip
        replace HG := HG.n1 G102
        clear G102
        have Fk23 := Fs103; clear Fs103
        simp only [V.spliceL, V.cellsL] at Fk23
        refine V.run T_ok 1 rfl ?_
        refine V.nil ?_
        refine V.tN ?_
        refine V.ret ?_
        refine V.tR ?_
        refine V.done2 rfl (V.resV_cell T_ok Fk23 rfl rfl) (V.resV_tmp rfl) ?_
        first
          | rw [show rPush d mi me sw sl nw nl pr = (d, 123) by simp only [rPush, stR]; grind [decR]]
        exact ⟨a29, c30, (by first | rfl | simp only [List.length_set]), F31.re, HG⟩
       ·
        try replace h13 := V.dec h13
        try simp only [V.mk0, V.mk1, V.mk2, V.mk3] at h13
        refine V.skip ?_
        refine V.tN ?_
        refine V.seq ?_
        refine V.region ?_
        refine V.run T_ok 1 rfl ?_
        refine V.loadO T_ok Fk2 rfl rfl rfl rfl rfl ?_
        refine V.run T_ok 1 rfl ?_
        refine V.loadO T_ok Fk2 rfl rfl rfl rfl rfl ?_
        refine V.run T_ok 1 rfl ?_
        refine V.loadO T_ok Fk9 rfl rfl rfl rfl rfl ?_
        refine V.run T_ok 2 rfl ?_
        refine V.loadO T_ok Fk2 rfl rfl rfl rfl rfl ?_
        refine V.mkStruct T_ok zero27 rfl rfl rfl rfl rfl ?_
        refine V.storeO Fk23 rfl rfl rfl rfl sz27 rfl rfl rfl rfl ?_
        rintro w106 G107 z109 Fs108
        clear Fk23
        have z110 := V.Fr.size G107
        first | replace F_o := F_o.mb G107 hD_o | clear F_o | skip
        first | replace Fk2 := Fk2.mv1 G107 (by omega) | clear Fk2 | skip
        first | replace Fk9 := Fk9.mv1 G107 (by omega) | clear Fk9 | skip
        first | replace Fk16 := Fk16.mv1 G107 (by omega) | clear Fk16 | skip
        first | replace F31 := F31.ma G107 | clear F31 | skip
        first | replace Fk36 := Fk36.mv1 G107 (by omega) | clear Fk36 | skip
        first | replace Fk70 := Fk70.mv1 G107 (by omega) | clear Fk70 | skip
        replace HG := HG.n1 G107
        clear G107
        have Fk23 := Fs108; clear Fs108
        simp only [V.spliceL, V.cellsL] at Fk23
        refine V.run T_ok 1 rfl ?_
        refine V.nil ?_
        refine V.tN ?_
        refine V.ret ?_
        refine V.done2 rfl (V.resV_cell T_ok Fk23 rfl rfl) (V.resV_tmp rfl) ?_
        first
          | rw [show rPush d mi me sw sl nw nl pr = (⟨d.id, max d.ep me, 4, 0, 0, d.bw, d.bl, []⟩, 0) by simp only [rPush, stR]; grind [decR]]
        exact ⟨none, 0, (by first | rfl | simp only [List.length_set]), (Sl.nil _ _ _ _ _ (Nat.zero_le _)), HG⟩
     ·
      try replace h9 := V.dec h9
      try simp only [V.mk0, V.mk1, V.mk2, V.mk3] at h9
      refine V.skip ?_
      refine V.tN ?_
      refine V.seq ?_
      refine V.seq ?_
      refine V.region ?_
      refine V.run T_ok 2 rfl ?_
      refine V.loadO T_ok Fk9 rfl rfl rfl rfl rfl ?_
      refine V.run T_ok 2 rfl ?_
      refine V.split (j := 4) (t := 53) rfl rfl (fun g11_4 => ?_) (fun g11_4 => ?_)
      ·
       try replace g11_4 := V.dec g11_4
       try simp only [V.mk0, V.mk1, V.mk2, V.mk3] at g11_4
       refine V.run T_ok 1 rfl ?_
       refine V.yes rfl rfl rfl ?_
       refine V.loadO T_ok Fk70 rfl rfl rfl rfl rfl ?_
       refine V.yes rfl rfl rfl ?_
       refine V.run T_ok 1 rfl ?_
       refine V.run T_ok 1 rfl ?_
       refine V.yes rfl rfl rfl ?_
       refine V.loadO T_ok Fk16 rfl rfl rfl rfl rfl ?_
       refine V.run T_ok 2 rfl ?_
       refine V.nil ?_
       refine V.tN ?_
       refine V.condT rfl (fun h11 => ?_) (fun h11 => ?_)
       ·
        try replace h11 := V.dec h11
        try simp only [V.mk0, V.mk1, V.mk2, V.mk3] at h11
        refine V.seq ?_
        refine V.region ?_
        refine V.loadO T_ok Fk36 rfl rfl rfl rfl rfl ?_
        refine V.storeO Fk23 rfl rfl rfl rfl sz27 rfl rfl rfl rfl ?_
        rintro w111 G112 z114 Fs113
        clear Fk23
        have z115 := V.Fr.size G112
        first | replace F_o := F_o.mb G112 hD_o | clear F_o | skip
        first | replace Fk2 := Fk2.mv1 G112 (by omega) | clear Fk2 | skip
        first | replace Fk9 := Fk9.mv1 G112 (by omega) | clear Fk9 | skip
        first | replace Fk16 := Fk16.mv1 G112 (by omega) | clear Fk16 | skip
        first | replace F31 := F31.ma G112 | clear F31 | skip
        first | replace Fk36 := Fk36.mv1 G112 (by omega) | clear Fk36 | skip
        first | replace Fk70 := Fk70.mv1 G112 (by omega) | clear Fk70 | skip
        replace HG := HG.n1 G112
        clear G112
        have Fk23 := Fs113; clear Fs113
        simp only [V.spliceL, V.cellsL] at Fk23
        refine V.run T_ok 1 rfl ?_
        refine V.nil ?_
        refine V.tN ?_
        refine V.ret ?_
        refine V.tR ?_
        refine V.done2 rfl (V.resV_cell T_ok Fk23 rfl rfl) (V.resV_tmp rfl) ?_
        first
          | rw [show rPush d mi me sw sl nw nl pr = (d, 121) by simp only [rPush, stR]; grind [decR]]
        exact ⟨a29, c30, (by first | rfl | simp only [List.length_set]), F31.re, HG⟩
       ·
        try replace h11 := V.dec h11
        try simp only [V.mk0, V.mk1, V.mk2, V.mk3] at h11
        refine V.skip ?_
        refine V.tN ?_
        refine V.seq ?_
        refine V.seq ?_
        refine V.region ?_
        refine V.run T_ok 1 rfl ?_
        refine V.loadO T_ok Fk2 rfl rfl rfl rfl rfl ?_
        refine V.run T_ok 1 rfl ?_
        refine V.nil ?_
        refine V.tN ?_
        refine V.condT rfl (fun h13 => ?_) (fun h13 => ?_)
        ·
         try replace h13 := V.dec h13
         try simp only [V.mk0, V.mk1, V.mk2, V.mk3] at h13
         refine V.seq ?_
         refine V.region ?_
         refine V.loadO T_ok Fk36 rfl rfl rfl rfl rfl ?_
         refine V.storeO Fk23 rfl rfl rfl rfl sz27 rfl rfl rfl rfl ?_
         rintro w116 G117 z119 Fs118
         clear Fk23
         have z120 := V.Fr.size G117
         first | replace F_o := F_o.mb G117 hD_o | clear F_o | skip
         first | replace Fk2 := Fk2.mv1 G117 (by omega) | clear Fk2 | skip
         first | replace Fk9 := Fk9.mv1 G117 (by omega) | clear Fk9 | skip
         first | replace Fk16 := Fk16.mv1 G117 (by omega) | clear Fk16 | skip
         first | replace F31 := F31.ma G117 | clear F31 | skip
         first | replace Fk36 := Fk36.mv1 G117 (by omega) | clear Fk36 | skip
         first | replace Fk70 := Fk70.mv1 G117 (by omega) | clear Fk70 | skip
         replace HG := HG.n1 G117
         clear G117
         have Fk23 := Fs118; clear Fs118
         simp only [V.spliceL, V.cellsL] at Fk23
         refine V.run T_ok 1 rfl ?_
         refine V.nil ?_
         refine V.tN ?_
         refine V.ret ?_
         refine V.tR ?_
         refine V.done2 rfl (V.resV_cell T_ok Fk23 rfl rfl) (V.resV_tmp rfl) ?_
         first
           | rw [show rPush d mi me sw sl nw nl pr = (d, 123) by simp only [rPush, stR]; grind [decR]]
         exact ⟨a29, c30, (by first | rfl | simp only [List.length_set]), F31.re, HG⟩
        ·
         try replace h13 := V.dec h13
         try simp only [V.mk0, V.mk1, V.mk2, V.mk3] at h13
         refine V.skip ?_
         refine V.tN ?_
         refine V.seq ?_
         refine V.region ?_
         refine V.run T_ok 1 rfl ?_
         refine V.loadO T_ok Fk2 rfl rfl rfl rfl rfl ?_
         refine V.run T_ok 1 rfl ?_
         refine V.loadO T_ok Fk2 rfl rfl rfl rfl rfl ?_
         refine V.run T_ok 1 rfl ?_
         refine V.loadO T_ok Fk9 rfl rfl rfl rfl rfl ?_
         refine V.run T_ok 2 rfl ?_
         refine V.loadO T_ok Fk2 rfl rfl rfl rfl rfl ?_
         refine V.mkStruct T_ok zero27 rfl rfl rfl rfl rfl ?_
         refine V.storeO Fk23 rfl rfl rfl rfl sz27 rfl rfl rfl rfl ?_
         rintro w121 G122 z124 Fs123
         clear Fk23
         have z125 := V.Fr.size G122
         first | replace F_o := F_o.mb G122 hD_o | clear F_o | skip
         first | replace Fk2 := Fk2.mv1 G122 (by omega) | clear Fk2 | skip
         first | replace Fk9 := Fk9.mv1 G122 (by omega) | clear Fk9 | skip
         first | replace Fk16 := Fk16.mv1 G122 (by omega) | clear Fk16 | skip
         first | replace F31 := F31.ma G122 | clear F31 | skip
         first | replace Fk36 := Fk36.mv1 G122 (by omega) | clear Fk36 | skip
         first | replace Fk70 := Fk70.mv1 G122 (by omega) | clear Fk70 | skip
         replace HG := HG.n1 G122
         clear G122
         have Fk23 := Fs123; clear Fs123
         simp only [V.spliceL, V.cellsL] at Fk23
         refine V.run T_ok 1 rfl ?_
         refine V.nil ?_
         refine V.tN ?_
         refine V.ret ?_
         refine V.done2 rfl (V.resV_cell T_ok Fk23 rfl rfl) (V.resV_tmp rfl) ?_
         first
           | rw [show rPush d mi me sw sl nw nl pr = (⟨d.id, max d.ep me, 4, 0, 0, d.bw, d.bl, []⟩, 0) by simp only [rPush, stR]; grind [decR]]
         exact ⟨none, 0, (by first | rfl | simp only [List.length_set]), (Sl.nil _ _ _ _ _ (Nat.zero_le _)), HG⟩
      ·
       try replace g11_4 := V.dec g11_4
       try simp only [V.mk0, V.mk1, V.mk2, V.mk3] at g11_4
       refine V.run T_ok 7 rfl ?_
       refine V.nil ?_
       refine V.tN ?_
       refine V.condN rfl rfl ?_
       refine V.skip ?_
       refine V.tN ?_
       refine V.seq ?_
       refine V.seq ?_
       refine V.region ?_
       refine V.run T_ok 1 rfl ?_
       refine V.loadO T_ok Fk2 rfl rfl rfl rfl rfl ?_
       refine V.run T_ok 1 rfl ?_
       refine V.nil ?_
       refine V.tN ?_
       refine V.condT rfl (fun h13 => ?_) (fun h13 => ?_)
       ·
        try replace h13 := V.dec h13
        try simp only [V.mk0, V.mk1, V.mk2, V.mk3] at h13
        refine V.seq ?_
        refine V.region ?_
        refine V.loadO T_ok Fk36 rfl rfl rfl rfl rfl ?_
        refine V.storeO Fk23 rfl rfl rfl rfl sz27 rfl rfl rfl rfl ?_
        rintro w126 G127 z129 Fs128
        clear Fk23
        have z130 := V.Fr.size G127
        first | replace F_o := F_o.mb G127 hD_o | clear F_o | skip
        first | replace Fk2 := Fk2.mv1 G127 (by omega) | clear Fk2 | skip
        first | replace Fk9 := Fk9.mv1 G127 (by omega) | clear Fk9 | skip
        first | replace Fk16 := Fk16.mv1 G127 (by omega) | clear Fk16 | skip
        first | replace F31 := F31.ma G127 | clear F31 | skip
        first | replace Fk36 := Fk36.mv1 G127 (by omega) | clear Fk36 | skip
        first | replace Fk70 := Fk70.mv1 G127 (by omega) | clear Fk70 | skip
        replace HG := HG.n1 G127
        clear G127
        have Fk23 := Fs128; clear Fs128
        simp only [V.spliceL, V.cellsL] at Fk23
        refine V.run T_ok 1 rfl ?_
        refine V.nil ?_
        refine V.tN ?_
        refine V.ret ?_
        refine V.tR ?_
        refine V.done2 rfl (V.resV_cell T_ok Fk23 rfl rfl) (V.resV_tmp rfl) ?_
        first
          | rw [show rPush d mi me sw sl nw nl pr = (d, 123) by simp only [rPush, stR]; grind [decR]]
        exact ⟨a29, c30, (by first | rfl | simp only [List.length_set]), F31.re, HG⟩
       ·
        try replace h13 := V.dec h13
        try simp only [V.mk0, V.mk1, V.mk2, V.mk3] at h13
        refine V.skip ?_
        refine V.tN ?_
        refine V.seq ?_
        refine V.region ?_
        refine V.run T_ok 1 rfl ?_
        refine V.loadO T_ok Fk2 rfl rfl rfl rfl rfl ?_
        refine V.run T_ok 1 rfl ?_
        refine V.loadO T_ok Fk2 rfl rfl rfl rfl rfl ?_
        refine V.run T_ok 1 rfl ?_
        refine V.loadO T_ok Fk9 rfl rfl rfl rfl rfl ?_
        refine V.run T_ok 2 rfl ?_
        refine V.loadO T_ok Fk2 rfl rfl rfl rfl rfl ?_
        refine V.mkStruct T_ok zero27 rfl rfl rfl rfl rfl ?_
        refine V.storeO Fk23 rfl rfl rfl rfl sz27 rfl rfl rfl rfl ?_
        rintro w131 G132 z134 Fs133
        clear Fk23
        have z135 := V.Fr.size G132
        first | replace F_o := F_o.mb G132 hD_o | clear F_o | skip
        first | replace Fk2 := Fk2.mv1 G132 (by omega) | clear Fk2 | skip
        first | replace Fk9 := Fk9.mv1 G132 (by omega) | clear Fk9 | skip
        first | replace Fk16 := Fk16.mv1 G132 (by omega) | clear Fk16 | skip
        first | replace F31 := F31.ma G132 | clear F31 | skip
        first | replace Fk36 := Fk36.mv1 G132 (by omega) | clear Fk36 | skip
        first | replace Fk70 := Fk70.mv1 G132 (by omega) | clear Fk70 | skip
        replace HG := HG.n1 G132
        clear G132
        have Fk23 := Fs133; clear Fs133
        simp only [V.spliceL, V.cellsL] at Fk23
        refine V.run T_ok 1 rfl ?_
        refine V.nil ?_
        refine V.tN ?_
        refine V.ret ?_
        refine V.done2 rfl (V.resV_cell T_ok Fk23 rfl rfl) (V.resV_tmp rfl) ?_
        first
          | rw [show rPush d mi me sw sl nw nl pr = (⟨d.id, max d.ep me, 4, 0, 0, d.bw, d.bl, []⟩, 0) by simp only [rPush, stR]; grind [decR]]
        exact ⟨none, 0, (by first | rfl | simp only [List.length_set]), (Sl.nil _ _ _ _ _ (Nat.zero_le _)), HG⟩
 ·
  try replace g3_2 := V.dec g3_2
  try simp only [V.mk0, V.mk1, V.mk2, V.mk3] at g3_2
  refine V.run T_ok 5 rfl ?_
  refine V.nil ?_
  refine V.tN ?_
  refine V.seq ?_
  refine V.seq ?_
  refine V.region ?_
  refine V.run T_ok 3 rfl ?_
  refine V.orG T_ok 2 2 28 rfl rfl rfl rfl rfl rfl rfl rfl ?_
  refine V.nil ?_
  refine V.tN ?_
  refine V.condT rfl (fun h4 => ?_) (fun h4 => ?_)
  ·
   try replace h4 := V.dec h4
   try simp only [V.mk0, V.mk1, V.mk2, V.mk3] at h4
   refine V.seq ?_
   refine V.region ?_
   refine V.loadO T_ok Fk36 rfl rfl rfl rfl rfl ?_
   refine V.storeO Fk23 rfl rfl rfl rfl sz27 rfl rfl rfl rfl ?_
   rintro w136 G137 z139 Fs138
   clear Fk23
   have z140 := V.Fr.size G137
   first | replace F_o := F_o.mb G137 hD_o | clear F_o | skip
   first | replace Fk2 := Fk2.mv1 G137 (by omega) | clear Fk2 | skip
   first | replace Fk9 := Fk9.mv1 G137 (by omega) | clear Fk9 | skip
   first | replace Fk16 := Fk16.mv1 G137 (by omega) | clear Fk16 | skip
   first | replace F31 := F31.ma G137 | clear F31 | skip
   first | replace Fk36 := Fk36.mv1 G137 (by omega) | clear Fk36 | skip
   replace HG := HG.n1 G137
   clear G137
   have Fk23 := Fs138; clear Fs138
   simp only [V.spliceL, V.cellsL] at Fk23
   refine V.run T_ok 1 rfl ?_
   refine V.nil ?_
   refine V.tN ?_
   refine V.ret ?_
   refine V.tR ?_
   refine V.done2 rfl (V.resV_cell T_ok Fk23 rfl rfl) (V.resV_tmp rfl) ?_
   first
     | rw [show rPush d mi me sw sl nw nl pr = (d, 1) by simp only [rPush, stR]; grind [decR]]
   exact ⟨a29, c30, (by first | rfl | simp only [List.length_set]), F31.re, HG⟩
  ·
   try replace h4 := V.dec h4
   try simp only [V.mk0, V.mk1, V.mk2, V.mk3] at h4
   refine V.skip ?_
   refine V.tN ?_
   refine V.seq ?_
   refine V.seq ?_
   refine V.region ?_
   refine V.run T_ok 1 rfl ?_
   refine V.loadO T_ok Fk2 rfl rfl rfl rfl rfl ?_
   refine V.run T_ok 2 rfl ?_
   refine V.split (j := 3) (t := 36) rfl rfl (fun g6_3 => ?_) (fun g6_3 => ?_)
   ·
    try replace g6_3 := V.dec g6_3
    try simp only [V.mk0, V.mk1, V.mk2, V.mk3] at g6_3
    refine V.run T_ok 4 rfl ?_
    refine V.nil ?_
    refine V.tN ?_
    refine V.condY rfl rfl ?_
    refine V.seq ?_
    refine V.region ?_
    refine V.loadO T_ok Fk36 rfl rfl rfl rfl rfl ?_
    refine V.storeO Fk23 rfl rfl rfl rfl sz27 rfl rfl rfl rfl ?_
    rintro w141 G142 z144 Fs143
    clear Fk23
    have z145 := V.Fr.size G142
    first | replace F_o := F_o.mb G142 hD_o | clear F_o | skip
    first | replace Fk2 := Fk2.mv1 G142 (by omega) | clear Fk2 | skip
    first | replace Fk9 := Fk9.mv1 G142 (by omega) | clear Fk9 | skip
    first | replace Fk16 := Fk16.mv1 G142 (by omega) | clear Fk16 | skip
    first | replace F31 := F31.ma G142 | clear F31 | skip
    first | replace Fk36 := Fk36.mv1 G142 (by omega) | clear Fk36 | skip
    replace HG := HG.n1 G142
    clear G142
    have Fk23 := Fs143; clear Fs143
    simp only [V.spliceL, V.cellsL] at Fk23
    refine V.run T_ok 1 rfl ?_
    refine V.nil ?_
    refine V.tN ?_
    refine V.ret ?_
    refine V.tR ?_
    refine V.done2 rfl (V.resV_cell T_ok Fk23 rfl rfl) (V.resV_tmp rfl) ?_
    first
      | rw [show rPush d mi me sw sl nw nl pr = (d, 0) by simp only [rPush, stR]; grind [decR]]
    exact ⟨a29, c30, (by first | rfl | simp only [List.length_set]), F31.re, HG⟩
   ·
    try replace g6_3 := V.dec g6_3
    try simp only [V.mk0, V.mk1, V.mk2, V.mk3] at g6_3
    refine V.run T_ok 1 rfl ?_
    refine V.yes rfl rfl rfl ?_
    refine V.loadO T_ok Fk2 rfl rfl rfl rfl rfl ?_
    refine V.run T_ok 2 rfl ?_
    refine V.nil ?_
    refine V.tN ?_
    refine V.condT rfl (fun h6 => ?_) (fun h6 => ?_)
    ·
     try replace h6 := V.dec h6
     try simp only [V.mk0, V.mk1, V.mk2, V.mk3] at h6
     refine V.seq ?_
     refine V.region ?_
     refine V.loadO T_ok Fk36 rfl rfl rfl rfl rfl ?_
     refine V.storeO Fk23 rfl rfl rfl rfl sz27 rfl rfl rfl rfl ?_
     rintro w146 G147 z149 Fs148
     clear Fk23
     have z150 := V.Fr.size G147
     first | replace F_o := F_o.mb G147 hD_o | clear F_o | skip
     first | replace Fk2 := Fk2.mv1 G147 (by omega) | clear Fk2 | skip
     first | replace Fk9 := Fk9.mv1 G147 (by omega) | clear Fk9 | skip
     first | replace Fk16 := Fk16.mv1 G147 (by omega) | clear Fk16 | skip
     first | replace F31 := F31.ma G147 | clear F31 | skip
     first | replace Fk36 := Fk36.mv1 G147 (by omega) | clear Fk36 | skip
     replace HG := HG.n1 G147
     clear G147
     have Fk23 := Fs148; clear Fs148
     simp only [V.spliceL, V.cellsL] at Fk23
     refine V.run T_ok 1 rfl ?_
     refine V.nil ?_
     refine V.tN ?_
     refine V.ret ?_
     refine V.tR ?_
     refine V.done2 rfl (V.resV_cell T_ok Fk23 rfl rfl) (V.resV_tmp rfl) ?_
     first
       | rw [show rPush d mi me sw sl nw nl pr = (d, 0) by simp only [rPush, stR]; grind [decR]]
     exact ⟨a29, c30, (by first | rfl | simp only [List.length_set]), F31.re, HG⟩
    ·
     try replace h6 := V.dec h6
     try simp only [V.mk0, V.mk1, V.mk2, V.mk3] at h6
     refine V.skip ?_
     refine V.tN ?_
     refine V.seq ?_
     refine V.region ?_
     refine V.run T_ok 1 rfl ?_
     refine V.loadO T_ok Fk2 rfl rfl rfl rfl rfl ?_
     refine V.alloc zero24 rfl rfl rfl ?_
     rintro k151 w153 s155 s156 G154 Fk152
     have z157 := V.Fr.size G154
     try replace F_o := F_o.gr G154
     try replace Fk2 := Fk2.gr G154
     try replace Fk9 := Fk9.gr G154
     try replace Fk16 := Fk16.gr G154
     try replace Fk23 := Fk23.gr G154
     try replace F31 := F31.gr G154
     try replace Fk36 := Fk36.gr G154
     replace HG := HG.grow G154
     clear G154
     try simp only [V.cellsL, V.spliceL] at Fk152
     refine V.storeO Fk152 rfl rfl rfl rfl sz24 rfl rfl rfl rfl ?_
     rintro w158 G159 z161 Fs160
     clear Fk152
     have z162 := V.Fr.size G159
     first | replace F_o := F_o.mb G159 hD_o | clear F_o | skip
     first | replace Fk2 := Fk2.mv1 G159 (by omega) | clear Fk2 | skip
     first | replace Fk9 := Fk9.mv1 G159 (by omega) | clear Fk9 | skip
     first | replace Fk16 := Fk16.mv1 G159 (by omega) | clear Fk16 | skip
     first | replace Fk23 := Fk23.mv1 G159 (by omega) | clear Fk23 | skip
     first | replace F31 := F31.ma G159 | clear F31 | skip
     first | replace Fk36 := Fk36.mv1 G159 (by omega) | clear Fk36 | skip
     replace HG := HG.n1 G159
     clear G159
     have Fk152 := Fs160; clear Fs160
     simp only [V.spliceL, V.cellsL] at Fk152
     refine V.nil ?_
     refine V.tN ?_
     refine V.seq ?_
     refine V.seq ?_
     refine V.region ?_
     refine V.run T_ok 1 rfl ?_
     refine V.loadO T_ok Fk2 rfl rfl rfl rfl rfl ?_
     refine V.run T_ok 1 rfl ?_
     refine V.nil ?_
     refine V.tN ?_
     refine V.condT rfl (fun h9 => ?_) (fun h9 => ?_)
     ·
      try replace h9 := V.dec h9
      try simp only [V.mk0, V.mk1, V.mk2, V.mk3] at h9
      refine V.region ?_
      refine V.run T_ok 1 rfl ?_
      refine V.loadO T_ok Fk9 rfl rfl rfl rfl rfl ?_
      refine V.storeO Fk152 rfl rfl rfl rfl sz24 rfl rfl rfl rfl ?_
      rintro w163 G164 z166 Fs165
      clear Fk152
      have z167 := V.Fr.size G164
      first | replace F_o := F_o.mb G164 hD_o | clear F_o | skip
      first | replace Fk2 := Fk2.mv1 G164 (by omega) | clear Fk2 | skip
      first | replace Fk9 := Fk9.mv1 G164 (by omega) | clear Fk9 | skip
      first | replace Fk16 := Fk16.mv1 G164 (by omega) | clear Fk16 | skip
      first | replace Fk23 := Fk23.mv1 G164 (by omega) | clear Fk23 | skip
      first | replace F31 := F31.ma G164 | clear F31 | skip
      first | replace Fk36 := Fk36.mv1 G164 (by omega) | clear Fk36 | skip
      replace HG := HG.n1 G164
      clear G164
      have Fk152 := Fs165; clear Fs165
      simp only [V.spliceL, V.cellsL] at Fk152
      refine V.nil ?_
      refine V.tN ?_
      refine V.seq ?_
      refine V.seq ?_
      refine V.region ?_
      refine V.run T_ok 2 rfl ?_
      refine V.loadO T_ok Fk9 rfl rfl rfl rfl rfl ?_
      refine V.run T_ok 2 rfl ?_
      refine V.split (j := 4) (t := 53) rfl rfl (fun g11_4 => ?_) (fun g11_4 => ?_)
      ·
       try replace g11_4 := V.dec g11_4
       try simp only [V.mk0, V.mk1, V.mk2, V.mk3] at g11_4
       refine V.run T_ok 1 rfl ?_
       refine V.yes rfl rfl rfl ?_
       refine V.loadO T_ok Fk152 rfl rfl rfl rfl rfl ?_
       refine V.yes rfl rfl rfl ?_
       refine V.run T_ok 1 rfl ?_
       refine V.run T_ok 1 rfl ?_
       refine V.yes rfl rfl rfl ?_
       refine V.loadO T_ok Fk16 rfl rfl rfl rfl rfl ?_
       refine V.run T_ok 2 rfl ?_
       refine V.nil ?_
       refine V.tN ?_
       refine V.condT rfl (fun h11 => ?_) (fun h11 => ?_)
       ·
        try replace h11 := V.dec h11
        try simp only [V.mk0, V.mk1, V.mk2, V.mk3] at h11
        refine V.seq ?_
        refine V.region ?_
        refine V.loadO T_ok Fk36 rfl rfl rfl rfl rfl ?_
        refine V.storeO Fk23 rfl rfl rfl rfl sz27 rfl rfl rfl rfl ?_
        rintro w168 G169 z171 Fs170
        clear Fk23
        have z172 := V.Fr.size G169
        first | replace F_o := F_o.mb G169 hD_o | clear F_o | skip
        first | replace Fk2 := Fk2.mv1 G169 (by omega) | clear Fk2 | skip
        first | replace Fk9 := Fk9.mv1 G169 (by omega) | clear Fk9 | skip
        first | replace Fk16 := Fk16.mv1 G169 (by omega) | clear Fk16 | skip
        first | replace F31 := F31.ma G169 | clear F31 | skip
        first | replace Fk36 := Fk36.mv1 G169 (by omega) | clear Fk36 | skip
        first | replace Fk152 := Fk152.mv1 G169 (by omega) | clear Fk152 | skip
        replace HG := HG.n1 G169
        clear G169
        have Fk23 := Fs170; clear Fs170
        simp only [V.spliceL, V.cellsL] at Fk23
        refine V.run T_ok 1 rfl ?_
        refine V.nil ?_
        refine V.tN ?_
        refine V.ret ?_
        refine V.tR ?_
        refine V.done2 rfl (V.resV_cell T_ok Fk23 rfl rfl) (V.resV_tmp rfl) ?_
        first
          | rw [show rPush d mi me sw sl nw nl pr = (d, 121) by simp only [rPush, stR]; grind [decR]]
        exact ⟨a29, c30, (by first | rfl | simp only [List.length_set]), F31.re, HG⟩
       ·
        try replace h11 := V.dec h11
        try simp only [V.mk0, V.mk1, V.mk2, V.mk3] at h11
        refine V.skip ?_
        refine V.tN ?_
        refine V.seq ?_
        refine V.seq ?_
        refine V.region ?_
        refine V.run T_ok 1 rfl ?_
        refine V.loadO T_ok Fk2 rfl rfl rfl rfl rfl ?_
        refine V.run T_ok 1 rfl ?_
        refine V.nil ?_
        refine V.tN ?_
        refine V.condT rfl (fun h13 => ?_) (fun h13 => ?_)
        ·
         try replace h13 := V.dec h13
         try simp only [V.mk0, V.mk1, V.mk2, V.mk3] at h13
         refine V.seq ?_
         refine V.region ?_
         refine V.loadO T_ok Fk36 rfl rfl rfl rfl rfl ?_
         refine V.storeO Fk23 rfl rfl rfl rfl sz27 rfl rfl rfl rfl ?_
         rintro w173 G174 z176 Fs175
         clear Fk23
         have z177 := V.Fr.size G174
         first | replace F_o := F_o.mb G174 hD_o | clear F_o | skip
         first | replace Fk2 := Fk2.mv1 G174 (by omega) | clear Fk2 | skip
         first | replace Fk9 := Fk9.mv1 G174 (by omega) | clear Fk9 | skip
         first | replace Fk16 := Fk16.mv1 G174 (by omega) | clear Fk16 | skip
         first | replace F31 := F31.ma G174 | clear F31 | skip
         first | replace Fk36 := Fk36.mv1 G174 (by omega) | clear Fk36 | skip
         first | replace Fk152 := Fk152.mv1 G174 (by omega) | clear Fk152 | skip
         replace HG := HG.n1 G174
         clear G174
         have Fk23 := Fs175; clear Fs175
         simp only [V.spliceL, V.cellsL] at Fk23
         refine V.run T_ok 1 rfl ?_
         refine V.nil ?_
         refine V.tN ?_
         refine V.ret ?_
         refine V.tR ?_
         refine V.done2 rfl (V.resV_cell T_ok Fk23 rfl rfl) (V.resV_tmp rfl) ?_
         first
           | rw [show rPush d mi me sw sl nw nl pr = (d, 123) by simp only [rPush, stR]; grind [decR]]
         exact ⟨a29, c30, (by first | rfl | simp only [List.length_set]), F31.re, HG⟩
        ·
         try replace h13 := V.dec h13
         try simp only [V.mk0, V.mk1, V.mk2, V.mk3] at h13
         refine V.skip ?_
         refine V.tN ?_
         refine V.seq ?_
         refine V.region ?_
         refine V.run T_ok 1 rfl ?_
         refine V.loadO T_ok Fk2 rfl rfl rfl rfl rfl ?_
         refine V.run T_ok 1 rfl ?_
         refine V.loadO T_ok Fk2 rfl rfl rfl rfl rfl ?_
         refine V.run T_ok 1 rfl ?_
         refine V.loadO T_ok Fk9 rfl rfl rfl rfl rfl ?_
         refine V.run T_ok 2 rfl ?_
         refine V.loadO T_ok Fk2 rfl rfl rfl rfl rfl ?_
         refine V.mkStruct T_ok zero27 rfl rfl rfl rfl rfl ?_
         refine V.storeO Fk23 rfl rfl rfl rfl sz27 rfl rfl rfl rfl ?_
         rintro w178 G179 z181 Fs180
         clear Fk23
         have z182 := V.Fr.size G179
         first | replace F_o := F_o.mb G179 hD_o | clear F_o | skip
         first | replace Fk2 := Fk2.mv1 G179 (by omega) | clear Fk2 | skip
         first | replace Fk9 := Fk9.mv1 G179 (by omega) | clear Fk9 | skip
         first | replace Fk16 := Fk16.mv1 G179 (by omega) | clear Fk16 | skip
         first | replace F31 := F31.ma G179 | clear F31 | skip
         first | replace Fk36 := Fk36.mv1 G179 (by omega) | clear Fk36 | skip
         first | replace Fk152 := Fk152.mv1 G179 (by omega) | clear Fk152 | skip
         replace HG := HG.n1 G179
         clear G179
         have Fk23 := Fs180; clear Fs180
         simp only [V.spliceL, V.cellsL] at Fk23
         refine V.run T_ok 1 rfl ?_
         refine V.nil ?_
         refine V.tN ?_
         refine V.ret ?_
         refine V.done2 rfl (V.resV_cell T_ok Fk23 rfl rfl) (V.resV_tmp rfl) ?_
         first
           | rw [show rPush d mi me sw sl nw nl pr = (⟨d.id, max d.ep me, 4, 0, 0, d.bw, d.bl, []⟩, 0) by simp only [rPush, stR]; grind [decR]]
         exact ⟨none, 0, (by first | rfl | simp only [List.length_set]), (Sl.nil _ _ _ _ _ (Nat.zero_le _)), HG⟩
      ·
       try replace g11_4 := V.dec g11_4
       try simp only [V.mk0, V.mk1, V.mk2, V.mk3] at g11_4
       refine V.run T_ok 7 rfl ?_
       refine V.nil ?_
       refine V.tN ?_
       refine V.condN rfl rfl ?_
       refine V.skip ?_
       refine V.tN ?_
       refine V.seq ?_
       refine V.seq ?_
       refine V.region ?_
       refine V.run T_ok 1 rfl ?_
       refine V.loadO T_ok Fk2 rfl rfl rfl rfl rfl ?_
       refine V.run T_ok 1 rfl ?_
       refine V.nil ?_
       refine V.tN ?_
       refine V.condT rfl (fun h13 => ?_) (fun h13 => ?_)
       ·
        try replace h13 := V.dec h13
        try simp only [V.mk0, V.mk1, V.mk2, V.mk3] at h13
        refine V.seq ?_
        refine V.region ?_
        refine V.loadO T_ok Fk36 rfl rfl rfl rfl rfl ?_
        refine V.storeO Fk23 rfl rfl rfl rfl sz27 rfl rfl rfl rfl ?_
        rintro w183 G184 z186 Fs185
        clear Fk23
        have z187 := V.Fr.size G184
        first | replace F_o := F_o.mb G184 hD_o | clear F_o | skip
        first | replace Fk2 := Fk2.mv1 G184 (by omega) | clear Fk2 | skip
        first | replace Fk9 := Fk9.mv1 G184 (by omega) | clear Fk9 | skip
        first | replace Fk16 := Fk16.mv1 G184 (by omega) | clear Fk16 | skip
        first | replace F31 := F31.ma G184 | clear F31 | skip
        first | replace Fk36 := Fk36.mv1 G184 (by omega) | clear Fk36 | skip
        first | replace Fk152 := Fk152.mv1 G184 (by omega) | clear Fk152 | skip
        replace HG := HG.n1 G184
        clear G184
        have Fk23 := Fs185; clear Fs185
        simp only [V.spliceL, V.cellsL] at Fk23
        refine V.run T_ok 1 rfl ?_
        refine V.nil ?_
        refine V.tN ?_
        refine V.ret ?_
        refine V.tR ?_
        refine V.done2 rfl (V.resV_cell T_ok Fk23 rfl rfl) (V.resV_tmp rfl) ?_
        first
          | rw [show rPush d mi me sw sl nw nl pr = (d, 123) by simp only [rPush, stR]; grind [decR]]
        exact ⟨a29, c30, (by first | rfl | simp only [List.length_set]), F31.re, HG⟩
       ·
        try replace h13 := V.dec h13
        try simp only [V.mk0, V.mk1, V.mk2, V.mk3] at h13
        refine V.skip ?_
        refine V.tN ?_
        refine V.seq ?_
        refine V.region ?_
        refine V.run T_ok 1 rfl ?_
        refine V.loadO T_ok Fk2 rfl rfl rfl rfl rfl ?_
        refine V.run T_ok 1 rfl ?_
        refine V.loadO T_ok Fk2 rfl rfl rfl rfl rfl ?_
        refine V.run T_ok 1 rfl ?_
        refine V.loadO T_ok Fk9 rfl rfl rfl rfl rfl ?_
        refine V.run T_ok 2 rfl ?_
        refine V.loadO T_ok Fk2 rfl rfl rfl rfl rfl ?_
        refine V.mkStruct T_ok zero27 rfl rfl rfl rfl rfl ?_
        refine V.storeO Fk23 rfl rfl rfl rfl sz27 rfl rfl rfl rfl ?_
        rintro w188 G189 z191 Fs190
        clear Fk23
        have z192 := V.Fr.size G189
        first | replace F_o := F_o.mb G189 hD_o | clear F_o | skip
        first | replace Fk2 := Fk2.mv1 G189 (by omega) | clear Fk2 | skip
        first | replace Fk9 := Fk9.mv1 G189 (by omega) | clear Fk9 | skip
        first | replace Fk16 := Fk16.mv1 G189 (by omega) | clear Fk16 | skip
        first | replace F31 := F31.ma G189 | clear F31 | skip
        first | replace Fk36 := Fk36.mv1 G189 (by omega) | clear Fk36 | skip
        first | replace Fk152 := Fk152.mv1 G189 (by omega) | clear Fk152 | skip
        replace HG := HG.n1 G189
        clear G189
        have Fk23 := Fs190; clear Fs190
        simp only [V.spliceL, V.cellsL] at Fk23
        refine V.run T_ok 1 rfl ?_
        refine V.nil ?_
        refine V.tN ?_
        refine V.ret ?_
        refine V.done2 rfl (V.resV_cell T_ok Fk23 rfl rfl) (V.resV_tmp rfl) ?_
        first
          | rw [show rPush d mi me sw sl nw nl pr = (⟨d.id, max d.ep me, 4, 0, 0, d.bw, d.bl, []⟩, 0) by simp only [rPush, stR]; grind [decR]]
        exact ⟨none, 0, (by first | rfl | simp only [List.length_set]), (Sl.nil _ _ _ _ _ (Nat.zero_le _)), HG⟩
     ·
      try replace h9 := V.dec h9
      try simp only [V.mk0, V.mk1, V.mk2, V.mk3] at h9
      refine V.skip ?_
      refine V.tN ?_
      refine V.seq ?_
      refine V.seq ?_
      refine V.region ?_
      refine V.run T_ok 2 rfl ?_
      refine V.loadO T_ok Fk9 rfl rfl rfl rfl rfl ?_
      refine V.run T_ok 2 rfl ?_
      refine V.split (j := 4) (t := 53) rfl rfl (fun g11_4 => ?_) (fun g11_4 => ?_)
      ·
       try replace g11_4 := V.dec g11_4
       try simp only [V.mk0, V.mk1, V.mk2, V.mk3] at g11_4
       refine V.run T_ok 1 rfl ?_
       refine V.yes rfl rfl rfl ?_
       refine V.loadO T_ok Fk152 rfl rfl rfl rfl rfl ?_
       refine V.yes rfl rfl rfl ?_
       refine V.run T_ok 1 rfl ?_
       refine V.run T_ok 1 rfl ?_
       refine V.yes rfl rfl rfl ?_
       refine V.loadO T_ok Fk16 rfl rfl rfl rfl rfl ?_
       refine V.run T_ok 2 rfl ?_
       refine V.nil ?_
       refine V.tN ?_
       refine V.condT rfl (fun h11 => ?_) (fun h11 => ?_)
       ·
        try replace h11 := V.dec h11
        try simp only [V.mk0, V.mk1, V.mk2, V.mk3] at h11
        refine V.seq ?_
        refine V.region ?_
        refine V.loadO T_ok Fk36 rfl rfl rfl rfl rfl ?_
        refine V.storeO Fk23 rfl rfl rfl rfl sz27 rfl rfl rfl rfl ?_
        rintro w193 G194 z196 Fs195
        clear Fk23
        have z197 := V.Fr.size G194
        first | replace F_o := F_o.mb G194 hD_o | clear F_o | skip
        first | replace Fk2 := Fk2.mv1 G194 (by omega) | clear Fk2 | skip
        first | replace Fk9 := Fk9.mv1 G194 (by omega) | clear Fk9 | skip
        first | replace Fk16 := Fk16.mv1 G194 (by omega) | clear Fk16 | skip
        first | replace F31 := F31.ma G194 | clear F31 | skip
        first | replace Fk36 := Fk36.mv1 G194 (by omega) | clear Fk36 | skip
        first | replace Fk152 := Fk152.mv1 G194 (by omega) | clear Fk152 | skip
        replace HG := HG.n1 G194
        clear G194
        have Fk23 := Fs195; clear Fs195
        simp only [V.spliceL, V.cellsL] at Fk23
        refine V.run T_ok 1 rfl ?_
        refine V.nil ?_
        refine V.tN ?_
        refine V.ret ?_
        refine V.tR ?_
        refine V.done2 rfl (V.resV_cell T_ok Fk23 rfl rfl) (V.resV_tmp rfl) ?_
        first
          | rw [show rPush d mi me sw sl nw nl pr = (d, 121) by simp only [rPush, stR]; grind [decR]]
        exact ⟨a29, c30, (by first | rfl | simp only [List.length_set]), F31.re, HG⟩
       ·
        try replace h11 := V.dec h11
        try simp only [V.mk0, V.mk1, V.mk2, V.mk3] at h11
        refine V.skip ?_
        refine V.tN ?_
        refine V.seq ?_
        refine V.seq ?_
        refine V.region ?_
        refine V.run T_ok 1 rfl ?_
        refine V.loadO T_ok Fk2 rfl rfl rfl rfl rfl ?_
        refine V.run T_ok 1 rfl ?_
        refine V.nil ?_
        refine V.tN ?_
        refine V.condT rfl (fun h13 => ?_) (fun h13 => ?_)
        ·
         try replace h13 := V.dec h13
         try simp only [V.mk0, V.mk1, V.mk2, V.mk3] at h13
         refine V.seq ?_
         refine V.region ?_
         refine V.loadO T_ok Fk36 rfl rfl rfl rfl rfl ?_
         refine V.storeO Fk23 rfl rfl rfl rfl sz27 rfl rfl rfl rfl ?_
         rintro w198 G199 z201 Fs200
         clear Fk23
         have z202 := V.Fr.size G199
         first | replace F_o := F_o.mb G199 hD_o | clear F_o | skip
         first | replace Fk2 := Fk2.mv1 G199 (by omega) | clear Fk2 | skip
         first | replace Fk9 := Fk9.mv1 G199 (by omega) | clear Fk9 | skip
         first | replace Fk16 := Fk16.mv1 G199 (by omega) | clear Fk16 | skip
         first | replace F31 := F31.ma G199 | clear F31 | skip
         first | replace Fk36 := Fk36.mv1 G199 (by omega) | clear Fk36 | skip
         first | replace Fk152 := Fk152.mv1 G199 (by omega) | clear Fk152 | skip
         replace HG := HG.n1 G199
         clear G199
         have Fk23 := Fs200; clear Fs200
         simp only [V.spliceL, V.cellsL] at Fk23
         refine V.run T_ok 1 rfl ?_
         refine V.nil ?_
         refine V.tN ?_
         refine V.ret ?_
         refine V.tR ?_
         refine V.done2 rfl (V.resV_cell T_ok Fk23 rfl rfl) (V.resV_tmp rfl) ?_
         first
           | rw [show rPush d mi me sw sl nw nl pr = (d, 123) by simp only [rPush, stR]; grind [decR]]
         exact ⟨a29, c30, (by first | rfl | simp only [List.length_set]), F31.re, HG⟩
        ·
         try replace h13 := V.dec h13
         try simp only [V.mk0, V.mk1, V.mk2, V.mk3] at h13
         refine V.skip ?_
         refine V.tN ?_
         refine V.seq ?_
         refine V.region ?_
         refine V.run T_ok 1 rfl ?_
         refine V.loadO T_ok Fk2 rfl rfl rfl rfl rfl ?_
         refine V.run T_ok 1 rfl ?_
         refine V.loadO T_ok Fk2 rfl rfl rfl rfl rfl ?_
         refine V.run T_ok 1 rfl ?_
         refine V.loadO T_ok Fk9 rfl rfl rfl rfl rfl ?_
         refine V.run T_ok 2 rfl ?_
         refine V.loadO T_ok Fk2 rfl rfl rfl rfl rfl ?_
         refine V.mkStruct T_ok zero27 rfl rfl rfl rfl rfl ?_
         refine V.storeO Fk23 rfl rfl rfl rfl sz27 rfl rfl rfl rfl ?_
         rintro w203 G204 z206 Fs205
         clear Fk23
         have z207 := V.Fr.size G204
         first | replace F_o := F_o.mb G204 hD_o | clear F_o | skip
         first | replace Fk2 := Fk2.mv1 G204 (by omega) | clear Fk2 | skip
         first | replace Fk9 := Fk9.mv1 G204 (by omega) | clear Fk9 | skip
         first | replace Fk16 := Fk16.mv1 G204 (by omega) | clear Fk16 | skip
         first | replace F31 := F31.ma G204 | clear F31 | skip
         first | replace Fk36 := Fk36.mv1 G204 (by omega) | clear Fk36 | skip
         first | replace Fk152 := Fk152.mv1 G204 (by omega) | clear Fk152 | skip
         replace HG := HG.n1 G204
         clear G204
         have Fk23 := Fs205; clear Fs205
         simp only [V.spliceL, V.cellsL] at Fk23
         refine V.run T_ok 1 rfl ?_
         refine V.nil ?_
         refine V.tN ?_
         refine V.ret ?_
         refine V.done2 rfl (V.resV_cell T_ok Fk23 rfl rfl) (V.resV_tmp rfl) ?_
         first
           | rw [show rPush d mi me sw sl nw nl pr = (⟨d.id, max d.ep me, 4, 0, 0, d.bw, d.bl, []⟩, 0) by simp only [rPush, stR]; grind [decR]]
         exact ⟨none, 0, (by first | rfl | simp only [List.length_set]), (Sl.nil _ _ _ _ _ (Nat.zero_le _)), HG⟩
      ·
       try replace g11_4 := V.dec g11_4
       try simp only [V.mk0, V.mk1, V.mk2, V.mk3] at g11_4
       refine V.run T_ok 7 rfl ?_
       refine V.nil ?_
       refine V.tN ?_
       refine V.condN rfl rfl ?_
       refine V.skip ?_
       refine V.tN ?_
       refine V.seq ?_
       refine V.seq ?_
       refine V.region ?_
       refine V.run T_ok 1 rfl ?_
       refine V.loadO T_ok Fk2 rfl rfl rfl rfl rfl ?_
       refine V.run T_ok 1 rfl ?_
       refine V.nil ?_
       refine V.tN ?_
       refine V.condT rfl (fun h13 => ?_) (fun h13 => ?_)
       ·
        try replace h13 := V.dec h13
        try simp only [V.mk0, V.mk1, V.mk2, V.mk3] at h13
        refine V.seq ?_
        refine V.region ?_
        refine V.loadO T_ok Fk36 rfl rfl rfl rfl rfl ?_
        refine V.storeO Fk23 rfl rfl rfl rfl sz27 rfl rfl rfl rfl ?_
        rintro w208 G209 z211 Fs210
        clear Fk23
        have z212 := V.Fr.size G209
        first | replace F_o := F_o.mb G209 hD_o | clear F_o | skip
        first | replace Fk2 := Fk2.mv1 G209 (by omega) | clear Fk2 | skip
        first | replace Fk9 := Fk9.mv1 G209 (by omega) | clear Fk9 | skip
        first | replace Fk16 := Fk16.mv1 G209 (by omega) | clear Fk16 | skip
        first | replace F31 := F31.ma G209 | clear F31 | skip
        first | replace Fk36 := Fk36.mv1 G209 (by omega) | clear Fk36 | skip
        first | replace Fk152 := Fk152.mv1 G209 (by omega) | clear Fk152 | skip
        replace HG := HG.n1 G209
        clear G209
        have Fk23 := Fs210; clear Fs210
        simp only [V.spliceL, V.cellsL] at Fk23
        refine V.run T_ok 1 rfl ?_
        refine V.nil ?_
        refine V.tN ?_
        refine V.ret ?_
        refine V.tR ?_
        refine V.done2 rfl (V.resV_cell T_ok Fk23 rfl rfl) (V.resV_tmp rfl) ?_
        first
          | rw [show rPush d mi me sw sl nw nl pr = (d, 123) by simp only [rPush, stR]; grind [decR]]
        exact ⟨a29, c30, (by first | rfl | simp only [List.length_set]), F31.re, HG⟩
       ·
        try replace h13 := V.dec h13
        try simp only [V.mk0, V.mk1, V.mk2, V.mk3] at h13
        refine V.skip ?_
        refine V.tN ?_
        refine V.seq ?_
        refine V.region ?_
        refine V.run T_ok 1 rfl ?_
        refine V.loadO T_ok Fk2 rfl rfl rfl rfl rfl ?_
        refine V.run T_ok 1 rfl ?_
        refine V.loadO T_ok Fk2 rfl rfl rfl rfl rfl ?_
        refine V.run T_ok 1 rfl ?_
        refine V.loadO T_ok Fk9 rfl rfl rfl rfl rfl ?_
        refine V.run T_ok 2 rfl ?_
        refine V.loadO T_ok Fk2 rfl rfl rfl rfl rfl ?_
        refine V.mkStruct T_ok zero27 rfl rfl rfl rfl rfl ?_
        refine V.storeO Fk23 rfl rfl rfl rfl sz27 rfl rfl rfl rfl ?_
        rintro w213 G214 z216 Fs215
        clear Fk23
        have z217 := V.Fr.size G214
        first | replace F_o := F_o.mb G214 hD_o | clear F_o | skip
        first | replace Fk2 := Fk2.mv1 G214 (by omega) | clear Fk2 | skip
        first | replace Fk9 := Fk9.mv1 G214 (by omega) | clear Fk9 | skip
        first | replace Fk16 := Fk16.mv1 G214 (by omega) | clear Fk16 | skip
        first | replace F31 := F31.ma G214 | clear F31 | skip
        first | replace Fk36 := Fk36.mv1 G214 (by omega) | clear Fk36 | skip
        first | replace Fk152 := Fk152.mv1 G214 (by omega) | clear Fk152 | skip
        replace HG := HG.n1 G214
        clear G214
        have Fk23 := Fs215; clear Fs215
        simp only [V.spliceL, V.cellsL] at Fk23
        refine V.run T_ok 1 rfl ?_
        refine V.nil ?_
        refine V.tN ?_
        refine V.ret ?_
        refine V.done2 rfl (V.resV_cell T_ok Fk23 rfl rfl) (V.resV_tmp rfl) ?_
        first
          | rw [show rPush d mi me sw sl nw nl pr = (⟨d.id, max d.ep me, 4, 0, 0, d.bw, d.bl, []⟩, 0) by simp only [rPush, stR]; grind [decR]]
        exact ⟨none, 0, (by first | rfl | simp only [List.length_set]), (Sl.nil _ _ _ _ _ (Nat.zero_le _)), HG⟩

end Go.Proofs.Ytaokenlcjkomhaa
