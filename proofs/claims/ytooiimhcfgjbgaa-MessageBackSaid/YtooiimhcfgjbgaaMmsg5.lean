/- Proved here: walks: what functions of this seat's program return and what they leave of memory, each as a contract. Conditions: stated at each theorem. -/
import Derived.Test.YtooiimhcfgjbgaaMmsg4
namespace Go.Proofs.Ytooiimhcfgjbgaa
set_option linter.unusedVariables false
set_option linter.unusedSimpArgs false
open Go
open V (Bytes Meets Env Sl Own Gr Fr Cells S)

def kE {α : Type} (b : Bool) (d : List UInt8) (k : List (Int × List UInt8) → Bool → List UInt8 → α) : α := k (ents b d).2.2 (ents b d).1 (ents b d).2.1
def kX {α : Type} (b : Bool) (d : List UInt8) (k : ResV → Bool → List UInt8 → α) : α := k (resL b d).1 (resL b d).2.1 (resL b d).2.2
def kC {α : Type} (s : ByteArray) (b : Bool) (d : List UInt8) (k : CmdV → Bool → List UInt8 → α) : α := k ((decC s.data.toList).getD cmdZ) (b || decide (¬ (if (decC s.data.toList).isSome = true then (0 : Int) else 131) = 0)) d
theorem kE_eq {α : Type} {b b' : Bool} {d d' : List UInt8} {q : List (Int × List UInt8)} {k : List (Int × List UInt8) → Bool → List UInt8 → α} (h1 : (ents b d).2.2 = q) (h2 : (ents b d).1 = b') (h3 : (ents b d).2.1 = d') : kE b d k = k q b' d' := by subst h1 h2 h3; rfl
theorem kX_eq {α : Type} {b b' : Bool} {d d' : List UInt8} {q : ResV} {k : ResV → Bool → List UInt8 → α} (h1 : (resL b d).1 = q) (h2 : (resL b d).2.1 = b') (h3 : (resL b d).2.2 = d') : kX b d k = k q b' d' := by subst h1 h2 h3; rfl
theorem kC_eq {α : Type} {s : ByteArray} {b b' : Bool} {d : List UInt8} {q : CmdV} {k : CmdV → Bool → List UInt8 → α} (h1 : (decC s.data.toList).getD cmdZ = q) (h2 : (b || decide (¬ (if (decC s.data.toList).isSome = true then (0 : Int) else 131) = 0)) = b') : kC s b d k = k q b' d := by subst h1 h2; rfl
/-- what a message's bytes are read as, whatever comes of it -/
def decAllM (d : List UInt8) : MsgV × Bool × List UInt8 :=
  kN false d fun kd b d => kN b d fun fr b d => kN b d fun to b d => kN b d fun rg b d => kN b d fun te b d => kN b d fun ix b d => kN b d fun lt b d => kN b d fun co b d => kF b d fun ok b d => kE b d fun es b d => kT b d fun da b d => kS b d fun nw nl b d =>
  if kd = 6 then kT b d fun s b d => kC s b d fun c b d => (⟨kd, fr, to, rg, te, ix, lt, co, ok, es, da.data.toList, nw, nl, c, resZ⟩, b, d)
  else if kd = 7 then kX b d fun r b d => (⟨kd, fr, to, rg, te, ix, lt, co, ok, es, da.data.toList, nw, nl, cmdZ, r⟩, b, d)
  else (⟨kd, fr, to, rg, te, ix, lt, co, ok, es, da.data.toList, nw, nl, cmdZ, resZ⟩, b, d)
/-- the message of bytes -/
def decMsg (b : List UInt8) : Option MsgV := if (wholeB b).2 = 0 ∧ (decAllM (wholeB b).1).2.1 = false ∧ (decAllM (wholeB b).1).2.2 = [] ∧ msgB (decAllM (wholeB b).1).1 = true then some (decAllM (wholeB b).1).1 else none
def msgZ : MsgV := ⟨0, 0, 0, 0, 0, 0, 0, 0, false, [], [], 0, 0, cmdZ, resZ⟩
theorem decM_no1 {b : List UInt8} (h : ¬ (wholeB b).2 = 0) : decMsg b = none := if_neg (fun h2 => h h2.1)
theorem decM_no {b x d' : List UInt8} {m : MsgV} {bd : Bool} (hw : (wholeB b).1 = x) (h : decAllM x = (m, bd, d')) (h2 : ¬ (bd = false ∧ d' = [] ∧ msgB m = true)) : decMsg b = none := by unfold decMsg; rw [hw, h]; exact if_neg (fun h3 => h2 h3.2)
theorem decM_yes {b x d' : List UInt8} {m : MsgV} {bd : Bool} (he : (wholeB b).2 = 0) (hw : (wholeB b).1 = x) (h : decAllM x = (m, bd, d')) (h1 : bd = false) (h2 : d' = []) (h3 : msgB m = true) : decMsg b = some m := by unfold decMsg; rw [hw, h]; exact if_pos ⟨he, h1, h2, h3⟩
theorem szZ : SzOk cmdZ := ⟨by decide, by decide, by decide, by decide, fun _ h => by cases h⟩
theorem szRZ : SzR resZ := ⟨fun _ h => (by cases h), by decide, fun _ h => by cases h⟩
theorem whole_len (b : List UInt8) : (wholeB b).1.length ≤ b.length := by
  unfold wholeB
  split
  · split
    · dsimp only; omega
    · simp
  · simp

set_option maxHeartbeats 900000 in
set_option maxRecDepth 10000 in
theorem mdecode_spec {w : World}  {D_b : Nat → Prop} {c_b : Nat} {a_b : Option Addr} {b : List UInt8} (F_b : Sl V.Cod.byte w D_b a_b c_b b) (hD_b : ∀ k, D_b k → k < w.heap.size) (hl : b.length ≤ 140737488355328) :
    Meets Try.prog 8 [.slice a_b b.length c_b] w fun r w' => ∃ (ra87 : Option Addr) (rc87 : Nat) (ra88 : Option Addr) (rc88 : Nat) (ra89 : Option Addr) (rc89 : Nat) (ra90 : Option Addr) (rc90 : Nat) (ra91 : Option Addr) (rc91 : Nat), r = .tuple #[.agg #[.int .i64 (((decMsg b).getD msgZ).kd), .int .i64 (((decMsg b).getD msgZ).fr), .int .i64 (((decMsg b).getD msgZ).to), .int .i64 (((decMsg b).getD msgZ).rg), .int .i64 (((decMsg b).getD msgZ).te), .int .i64 (((decMsg b).getD msgZ).ix), .int .i64 (((decMsg b).getD msgZ).lt), .int .i64 (((decMsg b).getD msgZ).co), .bool (((decMsg b).getD msgZ).ok), .slice ra87 (((decMsg b).getD msgZ).es).length rc87, .slice ra88 (((decMsg b).getD msgZ).da).length rc88, .int .i64 (((decMsg b).getD msgZ).nw), .int .i64 (((decMsg b).getD msgZ).nl), .int .i64 (((decMsg b).getD msgZ).c.kd), .int .i64 (((decMsg b).getD msgZ).c.id), .int .i64 (((decMsg b).getD msgZ).c.le), .int .i64 (((decMsg b).getD msgZ).c.nd), .int .i64 (((decMsg b).getD msgZ).c.ti), .int .i64 (((decMsg b).getD msgZ).c.te), .string (((decMsg b).getD msgZ).c.an), .int .i64 (((decMsg b).getD msgZ).c.sw), .int .i64 (((decMsg b).getD msgZ).c.sl), .int .i64 (((decMsg b).getD msgZ).c.sq), .string (((decMsg b).getD msgZ).c.fr), .string (((decMsg b).getD msgZ).c.to), .string (((decMsg b).getD msgZ).c.va), .bool (((decMsg b).getD msgZ).c.go), .int .i64 (((decMsg b).getD msgZ).c.aw), .int .i64 (((decMsg b).getD msgZ).c.al), .int .i64 (((decMsg b).getD msgZ).c.lw), .int .i64 (((decMsg b).getD msgZ).c.ll), .bool (((decMsg b).getD msgZ).c.cm), .bool (((decMsg b).getD msgZ).c.st), .slice ra89 (((decMsg b).getD msgZ).c.ws).length rc89, .int .i64 (((decMsg b).getD msgZ).c.pr), .int .i64 (((decMsg b).getD msgZ).r.er), .int .i64 (((decMsg b).getD msgZ).r.aw), .int .i64 (((decMsg b).getD msgZ).r.al), .slice ra90 (((decMsg b).getD msgZ).r.ps).length rc90, .bool (((decMsg b).getD msgZ).r.fo), .int .i64 (((decMsg b).getD msgZ).r.ti), .int .i64 (((decMsg b).getD msgZ).r.te), .string (((decMsg b).getD msgZ).r.an), .int .i64 (((decMsg b).getD msgZ).r.sw), .int .i64 (((decMsg b).getD msgZ).r.sl), .int .i64 (((decMsg b).getD msgZ).r.rc.id), .int .i64 (((decMsg b).getD msgZ).r.rc.ep), .int .i64 (((decMsg b).getD msgZ).r.rc.st), .int .i64 (((decMsg b).getD msgZ).r.rc.aw), .int .i64 (((decMsg b).getD msgZ).r.rc.al), .int .i64 (((decMsg b).getD msgZ).r.rc.bw), .int .i64 (((decMsg b).getD msgZ).r.rc.bl), .slice ra91 (((decMsg b).getD msgZ).r.rc.ws).length rc91], .int .i64 (if (decMsg b).isSome = true then (0 : Int) else 181)] ∧ V.Row V.Cod.ent 56 w' V.None' w.heap.size w'.heap.size ra87 rc87 (((decMsg b).getD msgZ).es) ∧ Sl V.Cod.byte w' (V.In w.heap.size w'.heap.size) ra88 rc88 (((decMsg b).getD msgZ).da) ∧ V.Row V.Cod.write 60 w' V.None' w.heap.size w'.heap.size ra89 rc89 (((decMsg b).getD msgZ).c.ws) ∧ V.Row (V.Cod.pair V.Cod.str V.Cod.str) 58 w' V.None' w.heap.size w'.heap.size ra90 rc90 (((decMsg b).getD msgZ).r.ps) ∧ Sl V.Cod.write w' (V.In w.heap.size w'.heap.size) ra91 rc91 (((decMsg b).getD msgZ).r.rc.ws) ∧ Gr w w' := by
 have HG := V.Fr.refl [] w
 refine V.enter (n := 96) Try.func8 rfl rfl (by decide) rfl ?_
 refine V.sr ?_
 refine V.alloc zero43 rfl rfl rfl ?_
 rintro k1 w3 s5 s6 G4 Fk2
 have z7 := V.Fr.size G4
 try replace F_b := F_b.gr G4
 replace HG := HG.grow G4
 try simp only [V.cellsL, V.spliceL] at Fk2
 refine V.ru 1 ?_
 refine V.nt ?_
 refine V.sr ?_
 refine V.ru 1 ?_
 refine V.call (whole_spec F_b (fun k hk => by have := hD_b k hk; omega)) rfl rfl rfl ?_
 rintro _ w11 ⟨a8, c9, rfl, F10, G12⟩
 have z13 := V.Fr.size G12
 try replace F_b := F_b.gr G12
 try replace Fk2 := Fk2.gr G12
 replace HG := HG.grow G12
 refine V.ru 5 ?_
 refine V.nt ?_
 refine V.seq ?_
 refine V.sr ?_
 refine V.ru 2 ?_
 refine V.nt ?_
 refine V.condT rfl (fun h2 => ?_) (fun h2 => ?_)
 ·
  try replace h2 := V.dec h2
  try simp only [V.mk] at h2
  refine V.sr ?_
  refine V.mkStruct T_ok zero43 rfl rfl rfl rfl rfl ?_
  refine V.storeO Fk2 rfl rfl rfl rfl sz43 rfl rfl rfl rfl ?_
  rintro w14 G15 z17 Fs16
  clear Fk2
  have z18 := V.Fr.size G15
  try replace F_b := F_b.mb G15 hD_b
  try replace F10 := F10.ma G15
  replace HG := HG.n1 G15
  have Fk2 := Fs16; clear Fs16
  simp only [V.spliceL, V.cellsL] at Fk2
  refine V.ru 1 ?_
  refine V.nt ?_
  refine V.ret ?_
  refine V.tR ?_
  refine V.done2 rfl (V.resV_cell T_ok Fk2 rfl rfl) (V.resV_tmp rfl) ?_
  rw [show decMsg b = none from decM_no1 h2]
  exact ⟨none, 0, none, 0, none, 0, none, 0, none, 0, (by first | rfl | simp only [List.length_set]), V.Row.nil, (Sl.nil _ _ _ _ _ (Nat.zero_le _)), V.Row.nil, V.Row.nil, (Sl.nil _ _ _ _ _ (Nat.zero_le _)), HG⟩
 ·
  try replace h2 := V.dec h2
  try simp only [V.mk] at h2
  refine V.skip ?_
  refine V.tN ?_
  refine V.seq ?_
  have hwl := whole_len b
  generalize hw1 : (wholeB b).1 = x0 at F10 hwl ⊢
  refine V.region ?_
  refine V.ru 1 ?_
  refine V.call (p_open F10.sl (fun k hk => by have := hk.2; omega) V.lenA) rfl rfl rfl ?_
  rintro _ w22 ⟨k19, rfl, ⟨h20l, h20u⟩, F21, G23⟩
  have z24 := V.Fr.size G23
  try replace F_b := F_b.gr G23
  try replace Fk2 := Fk2.gr G23
  try replace F10 := F10.gr G23
  replace HG := HG.grow G23
  refine V.mkStruct T_ok zero66 rfl rfl rfl rfl rfl ?_
  refine V.box rfl rfl rfl rfl ?_
  rintro k25 w27 s29 s30 G28 Fk26
  have z31 := V.Fr.size G28
  try replace F_b := F_b.gr G28
  try replace Fk2 := Fk2.gr G28
  try replace F10 := F10.gr G28
  try replace F21 := F21.gr G28
  replace HG := HG.grow G28
  try simp only [V.cellsL, V.spliceL] at Fk26
  refine V.ru 1 ?_
  refine V.nt ?_
  refine V.sr ?_
  refine V.alloc zero43 rfl rfl rfl ?_
  rintro k32 w34 s36 s37 G35 Fk33
  have z38 := V.Fr.size G35
  try replace F_b := F_b.gr G35
  try replace Fk2 := Fk2.gr G35
  try replace F10 := F10.gr G35
  try replace F21 := F21.gr G35
  try replace Fk26 := Fk26.gr G35
  replace HG := HG.grow G35
  try simp only [V.cellsL, V.spliceL] at Fk33
  refine V.nt ?_
  refine V.sr ?_
  refine V.alloc zero3 rfl rfl rfl ?_
  rintro k39 w41 s43 s44 G42 Fk40
  have z45 := V.Fr.size G42
  try replace F_b := F_b.gr G42
  try replace Fk2 := Fk2.gr G42
  try replace F10 := F10.gr G42
  try replace F21 := F21.gr G42
  try replace Fk26 := Fk26.gr G42
  try replace Fk33 := Fk33.gr G42
  replace HG := HG.grow G42
  try simp only [V.cellsL, V.spliceL] at Fk40
  refine V.nt ?_
  refine V.seq ?_
  refine V.sr ?_
  refine V.ru 7 ?_
  refine V.mkSlice T_ok zero67 rfl rfl sz67 rfl rfl rfl rfl rfl rfl ?_
  rintro k46 w49 s51 s52 G50 Fk47
  have z53 := V.Fr.size G50
  try replace F_b := F_b.gr G50
  try replace Fk2 := Fk2.gr G50
  try replace F10 := F10.gr G50
  try replace F21 := F21.gr G50
  try replace Fk26 := Fk26.gr G50
  try replace Fk33 := Fk33.gr G50
  try replace Fk40 := Fk40.gr G50
  replace HG := HG.grow G50
  refine V.ru 2 ?_
  refine V.nt ?_
  refine V.block ?_
  refine V.loopR 9 ?_
  refine V.rnd ?_
  refine V.sr ?_
  refine V.ru 1 ?_
  refine V.nt ?_
  refine V.seq ?_
  refine V.condY rfl rfl ?_
  refine V.skip ?_
  refine V.tN ?_
  refine V.seq ?_
  refine V.block ?_
  refine V.sr ?_
  refine V.step rfl rfl (V.elem_run T_ok rfl rfl sz67 rfl rfl (by decide) (by decide) _) ?_
  refine V.loadO T_ok Fk47 rfl rfl rfl rfl rfl ?_
  refine V.ru 1 ?_
  refine V.nt ?_
  refine V.region ?_
  refine V.ru 2 ?_
  refine V.call (mtk_number (Ft := Fk26) (FX := F21) (Fx := Fk40) (off := 0) (hle := rfl) (n1 := by omega) (n2 := by omega) (n3 := by omega) (n4 := (by intro h; first | exact n5 h.1 | (have := h.1; have := h.2; omega))) (n5 := (by intro h; first | exact n5 h.1 | (have := h.1; have := h.2; omega)))) rfl rfl rfl ?_
  rintro _ w57 ⟨rfl, F54, F55, F56, G58⟩
  obtain ⟨w59, G60, G61⟩ := V.Fr.cut G58
  have z62 := V.Fr.size G60
  try replace F_b := F_b.mb G60 hD_b
  try replace Fk2 := Fk2.ma G60
  try replace F10 := F10.ma G60
  try replace F21 := F21.ma G60
  try replace Fk26 := Fk26.ma G60
  try replace Fk33 := Fk33.ma G60
  try replace Fk40 := Fk40.ma G60
  try replace Fk47 := Fk47.ma G60
  replace HG := HG.n1 G60
  obtain ⟨w63, G64, G65⟩ := V.Fr.two G61
  have z66 := V.Fr.size G64
  try replace F_b := F_b.mb G64 hD_b
  try replace Fk2 := Fk2.ma G64
  try replace F10 := F10.ma G64
  try replace F21 := F21.ma G64
  try replace Fk26 := Fk26.ma G64
  try replace Fk33 := Fk33.ma G64
  try replace Fk40 := Fk40.ma G64
  try replace Fk47 := Fk47.ma G64
  replace HG := HG.n1 G64
  have z67 := V.Fr.size G65
  try replace F_b := F_b.mb G65 hD_b
  try replace Fk2 := Fk2.ma G65
  try replace F10 := F10.ma G65
  try replace F21 := F21.ma G65
  try replace Fk26 := Fk26.ma G65
  try replace Fk33 := Fk33.ma G65
  try replace Fk40 := Fk40.ma G65
  try replace Fk47 := Fk47.ma G65
  replace HG := HG.n1 G65
  simp only [V.spliceL, V.cellsL] at F56
  refine V.nil ?_
  refine V.bN ?_
  refine V.tN ?_
  refine V.region ?_
  refine V.addN rfl rfl rfl rfl rfl V.lenA V.lenA ?_
  refine V.ru 1 ?_
  refine V.nt ?_
  refine V.rnd ?_
  refine V.seq ?_
  have z68 : w49.heap.size ≤ w57.heap.size := by omega
  have hhF10_0 : w11.heap.size ≤ w57.heap.size := by omega
  try clear z62
  try clear z66
  try clear z67
  generalize hd1 : (rdN x0 1099511627776).2 = d1 at F54
  generalize hb1 : (false || decide (¬ (rdN x0 1099511627776).1.2 = 0)) = b1 at F55
  generalize hq1_0 : (rdN x0 1099511627776).1.1 = q1_0 at F56
  refine V.region ?_
  refine V.ru 1 ?_
  refine V.nt ?_
  refine V.seq ?_
  refine V.condY rfl rfl ?_
  refine V.skip ?_
  refine V.tN ?_
  refine V.seq ?_
  refine V.block ?_
  refine V.sr ?_
  refine V.step rfl rfl (V.elem_run T_ok rfl rfl sz67 rfl rfl (by decide) (by decide) _) ?_
  refine V.loadO T_ok Fk47 rfl rfl rfl rfl rfl ?_
  refine V.ru 1 ?_
  refine V.nt ?_
  refine V.region ?_
  refine V.ru 2 ?_
  refine V.call (mtk_number (Ft := F55) (FX := F54) (Fx := Fk33) (off := 1) (hle := rfl) (n1 := by omega) (n2 := by omega) (n3 := by omega) (n4 := (by intro h; first | exact n5 h.1 | (have := h.1; have := h.2; omega))) (n5 := (by intro h; first | exact n5 h.1 | (have := h.1; have := h.2; omega)))) rfl rfl rfl ?_
  rintro _ w72 ⟨rfl, F69, F70, F71, G73⟩
  obtain ⟨w74, G75, G76⟩ := V.Fr.cut G73
  have z77 := V.Fr.size G75
  try replace F_b := F_b.mb G75 hD_b
  try replace Fk2 := Fk2.ma G75
  try replace F10 := F10.ma G75
  try replace Fk33 := Fk33.ma G75
  try replace Fk47 := Fk47.ma G75
  try replace F54 := F54.ma G75
  try replace F55 := F55.ma G75
  try replace F56 := F56.ma G75
  replace HG := HG.n1 G75
  obtain ⟨w78, G79, G80⟩ := V.Fr.two G76
  have z81 := V.Fr.size G79
  try replace F_b := F_b.mb G79 hD_b
  try replace Fk2 := Fk2.ma G79
  try replace F10 := F10.ma G79
  try replace Fk33 := Fk33.ma G79
  try replace Fk47 := Fk47.ma G79
  try replace F54 := F54.ma G79
  try replace F55 := F55.ma G79
  try replace F56 := F56.ma G79
  replace HG := HG.n1 G79
  have z82 := V.Fr.size G80
  try replace F_b := F_b.mb G80 hD_b
  try replace Fk2 := Fk2.ma G80
  try replace F10 := F10.ma G80
  try replace Fk33 := Fk33.ma G80
  try replace Fk47 := Fk47.ma G80
  try replace F54 := F54.ma G80
  try replace F55 := F55.ma G80
  try replace F56 := F56.ma G80
  replace HG := HG.n1 G80
  simp only [V.spliceL, V.cellsL] at F71
  refine V.nil ?_
  refine V.bN ?_
  refine V.tN ?_
  refine V.region ?_
  refine V.addN rfl rfl rfl rfl rfl V.lenA V.lenA ?_
  refine V.ru 1 ?_
  refine V.nt ?_
  refine V.rnd ?_
  refine V.seq ?_
  have z83 : w57.heap.size ≤ w72.heap.size := by omega
  have hhF10_1 : w11.heap.size ≤ w72.heap.size := by omega
  try clear z77
  try clear z81
  try clear z82
  generalize hd2 : (rdN d1 1099511627776).2 = d2 at F69
  generalize hb2 : (b1 || decide (¬ (rdN d1 1099511627776).1.2 = 0)) = b2 at F70
  generalize hq2_0 : (rdN d1 1099511627776).1.1 = q2_0 at F71
  refine V.region ?_
  refine V.ru 1 ?_
  refine V.nt ?_
  refine V.seq ?_
  refine V.condY rfl rfl ?_
  refine V.skip ?_
  refine V.tN ?_
  refine V.seq ?_
  refine V.block ?_
  refine V.sr ?_
  refine V.step rfl rfl (V.elem_run T_ok rfl rfl sz67 rfl rfl (by decide) (by decide) _) ?_
  refine V.loadO T_ok Fk47 rfl rfl rfl rfl rfl ?_
  refine V.ru 1 ?_
  refine V.nt ?_
  refine V.region ?_
  refine V.ru 2 ?_
  refine V.call (mtk_number (Ft := F70) (FX := F69) (Fx := F71) (off := 2) (hle := rfl) (n1 := by omega) (n2 := by omega) (n3 := by omega) (n4 := (by intro h; first | exact n5 h.1 | (have := h.1; have := h.2; omega))) (n5 := (by intro h; first | exact n5 h.1 | (have := h.1; have := h.2; omega)))) rfl rfl rfl ?_
  rintro _ w87 ⟨rfl, F84, F85, F86, G88⟩
  obtain ⟨w89, G90, G91⟩ := V.Fr.cut G88
  have z92 := V.Fr.size G90
  try replace F_b := F_b.mb G90 hD_b
  try replace Fk2 := Fk2.ma G90
  try replace F10 := F10.ma G90
  try replace Fk47 := Fk47.ma G90
  try replace F56 := F56.ma G90
  try replace F69 := F69.ma G90
  try replace F70 := F70.ma G90
  try replace F71 := F71.ma G90
  replace HG := HG.n1 G90
  obtain ⟨w93, G94, G95⟩ := V.Fr.two G91
  have z96 := V.Fr.size G94
  try replace F_b := F_b.mb G94 hD_b
  try replace Fk2 := Fk2.ma G94
  try replace F10 := F10.ma G94
  try replace Fk47 := Fk47.ma G94
  try replace F56 := F56.ma G94
  try replace F69 := F69.ma G94
  try replace F70 := F70.ma G94
  try replace F71 := F71.ma G94
  replace HG := HG.n1 G94
  have z97 := V.Fr.size G95
  try replace F_b := F_b.mb G95 hD_b
  try replace Fk2 := Fk2.ma G95
  try replace F10 := F10.ma G95
  try replace Fk47 := Fk47.ma G95
  try replace F56 := F56.ma G95
  try replace F69 := F69.ma G95
  try replace F70 := F70.ma G95
  try replace F71 := F71.ma G95
  replace HG := HG.n1 G95
  simp only [V.spliceL, V.cellsL] at F86
  refine V.nil ?_
  refine V.bN ?_
  refine V.tN ?_
  refine V.region ?_
  refine V.addN rfl rfl rfl rfl rfl V.lenA V.lenA ?_
  refine V.ru 1 ?_
  refine V.nt ?_
  refine V.rnd ?_
  refine V.seq ?_
  have z98 : w72.heap.size ≤ w87.heap.size := by omega
  have hhF10_2 : w11.heap.size ≤ w87.heap.size := by omega
  try clear z92
  try clear z96
  try clear z97
  generalize hd3 : (rdN d2 1099511627776).2 = d3 at F84
  generalize hb3 : (b2 || decide (¬ (rdN d2 1099511627776).1.2 = 0)) = b3 at F85
  generalize hq3_0 : (rdN d2 1099511627776).1.1 = q3_0 at F86
  refine V.region ?_
  refine V.ru 1 ?_
  refine V.nt ?_
  refine V.seq ?_
  refine V.condY rfl rfl ?_
  refine V.skip ?_
  refine V.tN ?_
  refine V.seq ?_
  refine V.block ?_
  refine V.sr ?_
  refine V.step rfl rfl (V.elem_run T_ok rfl rfl sz67 rfl rfl (by decide) (by decide) _) ?_
  refine V.loadO T_ok Fk47 rfl rfl rfl rfl rfl ?_
  refine V.ru 1 ?_
  refine V.nt ?_
  refine V.region ?_
  refine V.ru 2 ?_
  refine V.call (mtk_number (Ft := F85) (FX := F84) (Fx := F86) (off := 3) (hle := rfl) (n1 := by omega) (n2 := by omega) (n3 := by omega) (n4 := (by intro h; first | exact n5 h.1 | (have := h.1; have := h.2; omega))) (n5 := (by intro h; first | exact n5 h.1 | (have := h.1; have := h.2; omega)))) rfl rfl rfl ?_
  rintro _ w102 ⟨rfl, F99, F100, F101, G103⟩
  obtain ⟨w104, G105, G106⟩ := V.Fr.cut G103
  have z107 := V.Fr.size G105
  try replace F_b := F_b.mb G105 hD_b
  try replace Fk2 := Fk2.ma G105
  try replace F10 := F10.ma G105
  try replace Fk47 := Fk47.ma G105
  try replace F56 := F56.ma G105
  try replace F84 := F84.ma G105
  try replace F85 := F85.ma G105
  try replace F86 := F86.ma G105
  replace HG := HG.n1 G105
  obtain ⟨w108, G109, G110⟩ := V.Fr.two G106
  have z111 := V.Fr.size G109
  try replace F_b := F_b.mb G109 hD_b
  try replace Fk2 := Fk2.ma G109
  try replace F10 := F10.ma G109
  try replace Fk47 := Fk47.ma G109
  try replace F56 := F56.ma G109
  try replace F84 := F84.ma G109
  try replace F85 := F85.ma G109
  try replace F86 := F86.ma G109
  replace HG := HG.n1 G109
  have z112 := V.Fr.size G110
  try replace F_b := F_b.mb G110 hD_b
  try replace Fk2 := Fk2.ma G110
  try replace F10 := F10.ma G110
  try replace Fk47 := Fk47.ma G110
  try replace F56 := F56.ma G110
  try replace F84 := F84.ma G110
  try replace F85 := F85.ma G110
  try replace F86 := F86.ma G110
  replace HG := HG.n1 G110
  simp only [V.spliceL, V.cellsL] at F101
  refine V.nil ?_
  refine V.bN ?_
  refine V.tN ?_
  refine V.region ?_
  refine V.addN rfl rfl rfl rfl rfl V.lenA V.lenA ?_
  refine V.ru 1 ?_
  refine V.nt ?_
  refine V.rnd ?_
  refine V.seq ?_
  have z113 : w87.heap.size ≤ w102.heap.size := by omega
  have hhF10_3 : w11.heap.size ≤ w102.heap.size := by omega
  try clear z107
  try clear z111
  try clear z112
  generalize hd4 : (rdN d3 1099511627776).2 = d4 at F99
  generalize hb4 : (b3 || decide (¬ (rdN d3 1099511627776).1.2 = 0)) = b4 at F100
  generalize hq4_0 : (rdN d3 1099511627776).1.1 = q4_0 at F101
  refine V.region ?_
  refine V.ru 1 ?_
  refine V.nt ?_
  refine V.seq ?_
  refine V.condY rfl rfl ?_
  refine V.skip ?_
  refine V.tN ?_
  refine V.seq ?_
  refine V.block ?_
  refine V.sr ?_
  refine V.step rfl rfl (V.elem_run T_ok rfl rfl sz67 rfl rfl (by decide) (by decide) _) ?_
  refine V.loadO T_ok Fk47 rfl rfl rfl rfl rfl ?_
  refine V.ru 1 ?_
  refine V.nt ?_
  refine V.region ?_
  refine V.ru 2 ?_
  refine V.call (mtk_number (Ft := F100) (FX := F99) (Fx := F101) (off := 4) (hle := rfl) (n1 := by omega) (n2 := by omega) (n3 := by omega) (n4 := (by intro h; first | exact n5 h.1 | (have := h.1; have := h.2; omega))) (n5 := (by intro h; first | exact n5 h.1 | (have := h.1; have := h.2; omega)))) rfl rfl rfl ?_
  rintro _ w117 ⟨rfl, F114, F115, F116, G118⟩
  obtain ⟨w119, G120, G121⟩ := V.Fr.cut G118
  have z122 := V.Fr.size G120
  try replace F_b := F_b.mb G120 hD_b
  try replace Fk2 := Fk2.ma G120
  try replace F10 := F10.ma G120
  try replace Fk47 := Fk47.ma G120
  try replace F56 := F56.ma G120
  try replace F99 := F99.ma G120
  try replace F100 := F100.ma G120
  try replace F101 := F101.ma G120
  replace HG := HG.n1 G120
  obtain ⟨w123, G124, G125⟩ := V.Fr.two G121
  have z126 := V.Fr.size G124
  try replace F_b := F_b.mb G124 hD_b
  try replace Fk2 := Fk2.ma G124
  try replace F10 := F10.ma G124
  try replace Fk47 := Fk47.ma G124
  try replace F56 := F56.ma G124
  try replace F99 := F99.ma G124
  try replace F100 := F100.ma G124
  try replace F101 := F101.ma G124
  replace HG := HG.n1 G124
  have z127 := V.Fr.size G125
  try replace F_b := F_b.mb G125 hD_b
  try replace Fk2 := Fk2.ma G125
  try replace F10 := F10.ma G125
  try replace Fk47 := Fk47.ma G125
  try replace F56 := F56.ma G125
  try replace F99 := F99.ma G125
  try replace F100 := F100.ma G125
  try replace F101 := F101.ma G125
  replace HG := HG.n1 G125
  simp only [V.spliceL, V.cellsL] at F116
  refine V.nil ?_
  refine V.bN ?_
  refine V.tN ?_
  refine V.region ?_
  refine V.addN rfl rfl rfl rfl rfl V.lenA V.lenA ?_
  refine V.ru 1 ?_
  refine V.nt ?_
  refine V.rnd ?_
  refine V.seq ?_
  have z128 : w102.heap.size ≤ w117.heap.size := by omega
  have hhF10_4 : w11.heap.size ≤ w117.heap.size := by omega
  try clear z122
  try clear z126
  try clear z127
  generalize hd5 : (rdN d4 1099511627776).2 = d5 at F114
  generalize hb5 : (b4 || decide (¬ (rdN d4 1099511627776).1.2 = 0)) = b5 at F115
  generalize hq5_0 : (rdN d4 1099511627776).1.1 = q5_0 at F116
  refine V.region ?_
  refine V.ru 1 ?_
  refine V.nt ?_
  refine V.seq ?_
  refine V.condY rfl rfl ?_
  refine V.skip ?_
  refine V.tN ?_
  refine V.seq ?_
  refine V.block ?_
  refine V.sr ?_
  refine V.step rfl rfl (V.elem_run T_ok rfl rfl sz67 rfl rfl (by decide) (by decide) _) ?_
  refine V.loadO T_ok Fk47 rfl rfl rfl rfl rfl ?_
  refine V.ru 1 ?_
  refine V.nt ?_
  refine V.region ?_
  refine V.ru 2 ?_
  refine V.call (mtk_number (Ft := F115) (FX := F114) (Fx := F116) (off := 5) (hle := rfl) (n1 := by omega) (n2 := by omega) (n3 := by omega) (n4 := (by intro h; first | exact n5 h.1 | (have := h.1; have := h.2; omega))) (n5 := (by intro h; first | exact n5 h.1 | (have := h.1; have := h.2; omega)))) rfl rfl rfl ?_
  rintro _ w132 ⟨rfl, F129, F130, F131, G133⟩
  obtain ⟨w134, G135, G136⟩ := V.Fr.cut G133
  have z137 := V.Fr.size G135
  try replace F_b := F_b.mb G135 hD_b
  try replace Fk2 := Fk2.ma G135
  try replace F10 := F10.ma G135
  try replace Fk47 := Fk47.ma G135
  try replace F56 := F56.ma G135
  try replace F114 := F114.ma G135
  try replace F115 := F115.ma G135
  try replace F116 := F116.ma G135
  replace HG := HG.n1 G135
  obtain ⟨w138, G139, G140⟩ := V.Fr.two G136
  have z141 := V.Fr.size G139
  try replace F_b := F_b.mb G139 hD_b
  try replace Fk2 := Fk2.ma G139
  try replace F10 := F10.ma G139
  try replace Fk47 := Fk47.ma G139
  try replace F56 := F56.ma G139
  try replace F114 := F114.ma G139
  try replace F115 := F115.ma G139
  try replace F116 := F116.ma G139
  replace HG := HG.n1 G139
  have z142 := V.Fr.size G140
  try replace F_b := F_b.mb G140 hD_b
  try replace Fk2 := Fk2.ma G140
  try replace F10 := F10.ma G140
  try replace Fk47 := Fk47.ma G140
  try replace F56 := F56.ma G140
  try replace F114 := F114.ma G140
  try replace F115 := F115.ma G140
  try replace F116 := F116.ma G140
  replace HG := HG.n1 G140
  simp only [V.spliceL, V.cellsL] at F131
  refine V.nil ?_
  refine V.bN ?_
  refine V.tN ?_
  refine V.region ?_
  refine V.addN rfl rfl rfl rfl rfl V.lenA V.lenA ?_
  refine V.ru 1 ?_
  refine V.nt ?_
  refine V.rnd ?_
  refine V.seq ?_
  have z143 : w117.heap.size ≤ w132.heap.size := by omega
  have hhF10_5 : w11.heap.size ≤ w132.heap.size := by omega
  try clear z137
  try clear z141
  try clear z142
  generalize hd6 : (rdN d5 1099511627776).2 = d6 at F129
  generalize hb6 : (b5 || decide (¬ (rdN d5 1099511627776).1.2 = 0)) = b6 at F130
  generalize hq6_0 : (rdN d5 1099511627776).1.1 = q6_0 at F131
  refine V.region ?_
  refine V.ru 1 ?_
  refine V.nt ?_
  refine V.seq ?_
  refine V.condY rfl rfl ?_
  refine V.skip ?_
  refine V.tN ?_
  refine V.seq ?_
  refine V.block ?_
  refine V.sr ?_
  refine V.step rfl rfl (V.elem_run T_ok rfl rfl sz67 rfl rfl (by decide) (by decide) _) ?_
  refine V.loadO T_ok Fk47 rfl rfl rfl rfl rfl ?_
  refine V.ru 1 ?_
  refine V.nt ?_
  refine V.region ?_
  refine V.ru 2 ?_
  refine V.call (mtk_number (Ft := F130) (FX := F129) (Fx := F131) (off := 6) (hle := rfl) (n1 := by omega) (n2 := by omega) (n3 := by omega) (n4 := (by intro h; first | exact n5 h.1 | (have := h.1; have := h.2; omega))) (n5 := (by intro h; first | exact n5 h.1 | (have := h.1; have := h.2; omega)))) rfl rfl rfl ?_
  rintro _ w147 ⟨rfl, F144, F145, F146, G148⟩
  obtain ⟨w149, G150, G151⟩ := V.Fr.cut G148
  have z152 := V.Fr.size G150
  try replace F_b := F_b.mb G150 hD_b
  try replace Fk2 := Fk2.ma G150
  try replace F10 := F10.ma G150
  try replace Fk47 := Fk47.ma G150
  try replace F56 := F56.ma G150
  try replace F129 := F129.ma G150
  try replace F130 := F130.ma G150
  try replace F131 := F131.ma G150
  replace HG := HG.n1 G150
  obtain ⟨w153, G154, G155⟩ := V.Fr.two G151
  have z156 := V.Fr.size G154
  try replace F_b := F_b.mb G154 hD_b
  try replace Fk2 := Fk2.ma G154
  try replace F10 := F10.ma G154
  try replace Fk47 := Fk47.ma G154
  try replace F56 := F56.ma G154
  try replace F129 := F129.ma G154
  try replace F130 := F130.ma G154
  try replace F131 := F131.ma G154
  replace HG := HG.n1 G154
  have z157 := V.Fr.size G155
  try replace F_b := F_b.mb G155 hD_b
  try replace Fk2 := Fk2.ma G155
  try replace F10 := F10.ma G155
  try replace Fk47 := Fk47.ma G155
  try replace F56 := F56.ma G155
  try replace F129 := F129.ma G155
  try replace F130 := F130.ma G155
  try replace F131 := F131.ma G155
  replace HG := HG.n1 G155
  simp only [V.spliceL, V.cellsL] at F146
  refine V.nil ?_
  refine V.bN ?_
  refine V.tN ?_
  refine V.region ?_
  refine V.addN rfl rfl rfl rfl rfl V.lenA V.lenA ?_
  refine V.ru 1 ?_
  refine V.nt ?_
  refine V.rnd ?_
  refine V.seq ?_
  have z158 : w132.heap.size ≤ w147.heap.size := by omega
  have hhF10_6 : w11.heap.size ≤ w147.heap.size := by omega
  try clear z152
  try clear z156
  try clear z157
  generalize hd7 : (rdN d6 1099511627776).2 = d7 at F144
  generalize hb7 : (b6 || decide (¬ (rdN d6 1099511627776).1.2 = 0)) = b7 at F145
  generalize hq7_0 : (rdN d6 1099511627776).1.1 = q7_0 at F146
  refine V.region ?_
  refine V.ru 1 ?_
  refine V.nt ?_
  refine V.seq ?_
  refine V.condY rfl rfl ?_
  refine V.skip ?_
  refine V.tN ?_
  refine V.seq ?_
  refine V.block ?_
  refine V.sr ?_
  refine V.step rfl rfl (V.elem_run T_ok rfl rfl sz67 rfl rfl (by decide) (by decide) _) ?_
  refine V.loadO T_ok Fk47 rfl rfl rfl rfl rfl ?_
  refine V.ru 1 ?_
  refine V.nt ?_
  refine V.region ?_
  refine V.ru 2 ?_
  refine V.call (mtk_number (Ft := F145) (FX := F144) (Fx := F146) (off := 7) (hle := rfl) (n1 := by omega) (n2 := by omega) (n3 := by omega) (n4 := (by intro h; first | exact n5 h.1 | (have := h.1; have := h.2; omega))) (n5 := (by intro h; first | exact n5 h.1 | (have := h.1; have := h.2; omega)))) rfl rfl rfl ?_
  rintro _ w162 ⟨rfl, F159, F160, F161, G163⟩
  obtain ⟨w164, G165, G166⟩ := V.Fr.cut G163
  have z167 := V.Fr.size G165
  try replace F_b := F_b.mb G165 hD_b
  try replace Fk2 := Fk2.ma G165
  try replace F10 := F10.ma G165
  try replace Fk47 := Fk47.ma G165
  try replace F56 := F56.ma G165
  try replace F144 := F144.ma G165
  try replace F145 := F145.ma G165
  try replace F146 := F146.ma G165
  replace HG := HG.n1 G165
  obtain ⟨w168, G169, G170⟩ := V.Fr.two G166
  have z171 := V.Fr.size G169
  try replace F_b := F_b.mb G169 hD_b
  try replace Fk2 := Fk2.ma G169
  try replace F10 := F10.ma G169
  try replace Fk47 := Fk47.ma G169
  try replace F56 := F56.ma G169
  try replace F144 := F144.ma G169
  try replace F145 := F145.ma G169
  try replace F146 := F146.ma G169
  replace HG := HG.n1 G169
  have z172 := V.Fr.size G170
  try replace F_b := F_b.mb G170 hD_b
  try replace Fk2 := Fk2.ma G170
  try replace F10 := F10.ma G170
  try replace Fk47 := Fk47.ma G170
  try replace F56 := F56.ma G170
  try replace F144 := F144.ma G170
  try replace F145 := F145.ma G170
  try replace F146 := F146.ma G170
  replace HG := HG.n1 G170
  simp only [V.spliceL, V.cellsL] at F161
  refine V.nil ?_
  refine V.bN ?_
  refine V.tN ?_
  refine V.region ?_
  refine V.addN rfl rfl rfl rfl rfl V.lenA V.lenA ?_
  refine V.ru 1 ?_
  refine V.nt ?_
  refine V.rnd ?_
  refine V.seq ?_
  have z173 : w147.heap.size ≤ w162.heap.size := by omega
  have hhF10_7 : w11.heap.size ≤ w162.heap.size := by omega
  try clear z167
  try clear z171
  try clear z172
  generalize hd8 : (rdN d7 1099511627776).2 = d8 at F159
  generalize hb8 : (b7 || decide (¬ (rdN d7 1099511627776).1.2 = 0)) = b8 at F160
  generalize hq8_0 : (rdN d7 1099511627776).1.1 = q8_0 at F161
  refine V.region ?_
  refine V.ru 1 ?_
  refine V.nt ?_
  refine V.seq ?_
  refine V.condN rfl rfl ?_
  refine V.exit ?_
  refine V.tX ?_
  refine V.tX ?_
  refine V.bE ?_
  refine V.tN ?_
  refine V.sr ?_
  refine V.loadO T_ok F56 rfl rfl rfl rfl rfl ?_
  refine V.ru 1 ?_
  refine V.storeO F161 rfl rfl rfl rfl sz22 rfl rfl rfl rfl ?_
  rintro w174 G175 z177 Fs176
  clear F161
  have z178 := V.Fr.size G175
  try replace F_b := F_b.mb G175 hD_b
  try replace Fk2 := Fk2.ma G175
  try replace F10 := F10.ma G175
  try replace Fk47 := Fk47.ma G175
  try replace F56 := F56.ma G175
  try replace F159 := F159.ma G175
  try replace F160 := F160.ma G175
  replace HG := HG.n1 G175
  have F161 := Fs176; clear Fs176
  simp only [V.spliceL, V.cellsL] at F161
  refine V.nt ?_
  refine V.sr ?_
  refine V.ru 5 ?_
  refine V.loadO T_ok F160 rfl rfl rfl rfl rfl ?_
  refine V.ru 1 ?_
  refine V.call (mtake_flag (Ft := F160) (FX := F159) (Fx := F161) (off := 8) (hle := rfl) (n1 := by omega) (n2 := by omega) (n3 := by omega) (n4 := (by intro h; first | exact n5 h.1 | (have := h.1; have := h.2; omega))) (n5 := (by intro h; first | exact n5 h.1 | (have := h.1; have := h.2; omega)))) rfl rfl rfl ?_
  rintro _ w182 ⟨rfl, F179, F180, F181, G183⟩
  obtain ⟨w184, G185, G186⟩ := V.Fr.cut G183
  have z187 := V.Fr.size G185
  try replace F_b := F_b.mb G185 hD_b
  try replace Fk2 := Fk2.ma G185
  try replace F10 := F10.ma G185
  try replace Fk47 := Fk47.ma G185
  try replace F56 := F56.ma G185
  try replace F159 := F159.ma G185
  try replace F160 := F160.ma G185
  try replace F161 := F161.ma G185
  replace HG := HG.n1 G185
  obtain ⟨w188, G189, G190⟩ := V.Fr.two G186
  have z191 := V.Fr.size G189
  try replace F_b := F_b.mb G189 hD_b
  try replace Fk2 := Fk2.ma G189
  try replace F10 := F10.ma G189
  try replace Fk47 := Fk47.ma G189
  try replace F56 := F56.ma G189
  try replace F159 := F159.ma G189
  try replace F160 := F160.ma G189
  try replace F161 := F161.ma G189
  replace HG := HG.n1 G189
  have z192 := V.Fr.size G190
  try replace F_b := F_b.mb G190 hD_b
  try replace Fk2 := Fk2.ma G190
  try replace F10 := F10.ma G190
  try replace Fk47 := Fk47.ma G190
  try replace F56 := F56.ma G190
  try replace F159 := F159.ma G190
  try replace F160 := F160.ma G190
  try replace F161 := F161.ma G190
  replace HG := HG.n1 G190
  simp only [V.spliceL, V.cellsL] at F181
  refine V.nt ?_
  refine V.seq ?_
  have z193 : w174.heap.size ≤ w182.heap.size := by omega
  have hhF10_8 : w11.heap.size ≤ w182.heap.size := by omega
  try clear z187
  try clear z191
  try clear z192
  generalize hd9 : (rdF d8).2 = d9 at F179
  generalize hb9 : (b8 || decide (¬ (rdF d8).1.2 = 0)) = b9 at F180
  generalize hq9_0 : (rdF d8).1.1 = q9_0 at F181
  refine V.region ?_
  refine V.ru 1 ?_
  refine V.call (mtk_ents (Ft := F180) (FX := F179) (n1 := by omega) (n5 := (by intro h; first | exact n5 h.1 | (have := h.1; have := h.2; omega)))) rfl rfl rfl ?_
  rintro _ w199 ⟨a194, c195, rfl, F196, F197, F198, G200⟩
  obtain ⟨w201, G202, G203⟩ := V.Fr.two G200
  have z204 := V.Fr.size G202
  try replace F_b := F_b.mb G202 hD_b
  try replace Fk2 := Fk2.ma G202
  try replace F10 := F10.ma G202
  try replace Fk47 := Fk47.ma G202
  try replace F56 := F56.ma G202
  try replace F179 := F179.ma G202
  try replace F180 := F180.ma G202
  try replace F181 := F181.ma G202
  replace HG := HG.n1 G202
  have z205 := V.Fr.size G203
  try replace F_b := F_b.mb G203 hD_b
  try replace Fk2 := Fk2.ma G203
  try replace F10 := F10.ma G203
  try replace Fk47 := Fk47.ma G203
  try replace F56 := F56.ma G203
  try replace F179 := F179.ma G203
  try replace F180 := F180.ma G203
  try replace F181 := F181.ma G203
  replace HG := HG.n1 G203
  refine V.ru 1 ?_
  refine V.storeO F181 rfl rfl rfl rfl sz23 rfl rfl rfl rfl ?_
  rintro w206 G207 z209 Fs208
  clear F181
  have z210 := V.Fr.size G207
  try replace F_b := F_b.mb G207 hD_b
  try replace Fk2 := Fk2.ma G207
  try replace F10 := F10.ma G207
  try replace Fk47 := Fk47.ma G207
  try replace F56 := F56.ma G207
  try replace F196 := F196.ma G207
  try replace F197 := F197.ma G207
  try replace F198 := F198.ma G207
  replace HG := HG.n1 G207
  have F181 := Fs208; clear Fs208
  simp only [V.spliceL, V.cellsL] at F181
  refine V.nt ?_
  refine V.seq ?_
  have z211 : w182.heap.size ≤ w206.heap.size := by omega
  have hhF10_9 : w11.heap.size ≤ w206.heap.size := by omega
  have hhF198_9 : w199.heap.size ≤ w206.heap.size := by omega
  try clear z204
  try clear z205
  try clear z209
  try clear z210
  generalize hd10 : (ents b9 d9).2.1 = d10 at F196
  generalize hb10 : (ents b9 d9).1 = b10 at F197
  generalize hq10_0 : (ents b9 d9).2.2 = q10_0 at F198 F181 ⊢
  refine V.region ?_
  refine V.alloc zero9 rfl rfl rfl ?_
  rintro k212 w214 s216 s217 G215 Fk213
  have z218 := V.Fr.size G215
  try replace F_b := F_b.gr G215
  try replace Fk2 := Fk2.gr G215
  try replace F10 := F10.gr G215
  try replace Fk47 := Fk47.gr G215
  try replace F56 := F56.gr G215
  try replace F196 := F196.gr G215
  try replace F197 := F197.gr G215
  try replace F198 := F198.gr G215
  try replace F181 := F181.gr G215
  replace HG := HG.grow G215
  try simp only [V.cellsL, V.spliceL] at Fk213
  refine V.nt ?_
  refine V.sr ?_
  refine V.ru 1 ?_
  refine V.call (mtk_text (Ft := F197) (FX := F196) (Fx := Fk213) (off := 0) (hle := rfl) (n1 := by omega) (n2 := by omega) (n3 := by omega) (n4 := (by intro h; first | exact n5 h.1 | (have := h.1; have := h.2; omega))) (n5 := (by intro h; first | exact n5 h.1 | (have := h.1; have := h.2; omega)))) rfl rfl rfl ?_
  rintro _ w222 ⟨rfl, F219, F220, F221, G223⟩
  obtain ⟨w224, G225, G226⟩ := V.Fr.cut G223
  have z227 := V.Fr.size G225
  try replace F_b := F_b.mb G225 hD_b
  try replace Fk2 := Fk2.ma G225
  try replace F10 := F10.ma G225
  try replace Fk47 := Fk47.ma G225
  try replace F56 := F56.ma G225
  try replace F196 := F196.ma G225
  try replace F197 := F197.ma G225
  try replace F198 := F198.ma G225
  try replace F181 := F181.ma G225
  try replace Fk213 := Fk213.ma G225
  replace HG := HG.n1 G225
  obtain ⟨w228, G229, G230⟩ := V.Fr.two G226
  have z231 := V.Fr.size G229
  try replace F_b := F_b.mb G229 hD_b
  try replace Fk2 := Fk2.ma G229
  try replace F10 := F10.ma G229
  try replace Fk47 := Fk47.ma G229
  try replace F56 := F56.ma G229
  try replace F196 := F196.ma G229
  try replace F197 := F197.ma G229
  try replace F198 := F198.ma G229
  try replace F181 := F181.ma G229
  try replace Fk213 := Fk213.ma G229
  replace HG := HG.n1 G229
  have z232 := V.Fr.size G230
  try replace F_b := F_b.mb G230 hD_b
  try replace Fk2 := Fk2.ma G230
  try replace F10 := F10.ma G230
  try replace Fk47 := Fk47.ma G230
  try replace F56 := F56.ma G230
  try replace F196 := F196.ma G230
  try replace F197 := F197.ma G230
  try replace F198 := F198.ma G230
  try replace F181 := F181.ma G230
  try replace Fk213 := Fk213.ma G230
  replace HG := HG.n1 G230
  simp only [V.spliceL, V.cellsL] at F221
  refine V.nt ?_
  refine V.seq ?_
  have z233 : w214.heap.size ≤ w222.heap.size := by omega
  have hhF10_10 : w11.heap.size ≤ w222.heap.size := by omega
  have hhF198_10 : w199.heap.size ≤ w222.heap.size := by omega
  try clear z227
  try clear z231
  try clear z232
  generalize hd11 : (rdT d10 65536).2 = d11 at F219
  generalize hb11 : (b10 || decide (¬ (rdT d10 65536).1.2 = 0)) = b11 at F220
  generalize hq11_0 : S (rdT d10 65536).1.1 = q11_0 at F221
  have hz11 := szT hq11_0
  have hm11 := szT2 hq11_0
  refine V.region ?_
  refine V.loadO T_ok F221 rfl rfl rfl rfl rfl ?_
  have hsT : q11_0.size ≤ maxLen := by simp only [maxLen]; omega
  refine V.ofStr Try.underlying9 Try.underlying24 Try.underlying5 rfl rfl rfl rfl (by omega) ?_
  rintro a234 c235 w237 G238 s239 F236
  have z240 := V.Fr.size G238
  try replace F_b := F_b.gr G238
  try replace Fk2 := Fk2.gr G238
  try replace F10 := F10.gr G238
  try replace Fk47 := Fk47.gr G238
  try replace F56 := F56.gr G238
  try replace F198 := F198.gr G238
  try replace F181 := F181.gr G238
  try replace F219 := F219.gr G238
  try replace F220 := F220.gr G238
  try replace F221 := F221.gr G238
  replace HG := HG.grow G238
  refine V.ru 1 ?_
  refine V.storeO F181 rfl rfl rfl rfl sz24 rfl rfl rfl rfl ?_
  rintro w241 G242 z244 Fs243
  clear F181
  have z245 := V.Fr.size G242
  try replace F_b := F_b.mb G242 hD_b
  try replace Fk2 := Fk2.ma G242
  try replace F10 := F10.ma G242
  try replace Fk47 := Fk47.ma G242
  try replace F56 := F56.ma G242
  try replace F198 := F198.ma G242
  try replace F219 := F219.ma G242
  try replace F220 := F220.ma G242
  try replace F221 := F221.ma G242
  try replace F236 := F236.ma G242
  replace HG := HG.n1 G242
  have F181 := Fs243; clear Fs243
  simp only [V.spliceL, V.cellsL] at F181
  refine V.nt ?_
  refine V.sr ?_
  refine V.ru 2 ?_
  refine V.call (mtk_stamp (Ft := F220) (FX := F219) (Fx := F181) (off := 11) (hle := rfl) (n1 := by omega) (n2 := by omega) (n3 := by omega) (n4 := (by intro h; first | exact n5 h.1 | (have := h.1; have := h.2; omega))) (n5 := (by intro h; first | exact n5 h.1 | (have := h.1; have := h.2; omega)))) rfl rfl rfl ?_
  rintro _ w249 ⟨rfl, F246, F247, F248, G250⟩
  obtain ⟨w251, G252, G253⟩ := V.Fr.cut G250
  have z254 := V.Fr.size G252
  try replace F_b := F_b.mb G252 hD_b
  try replace Fk2 := Fk2.ma G252
  try replace F10 := F10.ma G252
  try replace Fk47 := Fk47.ma G252
  try replace F56 := F56.ma G252
  try replace F198 := F198.ma G252
  try replace F219 := F219.ma G252
  try replace F220 := F220.ma G252
  try replace F221 := F221.ma G252
  try replace F236 := F236.ma G252
  try replace F181 := F181.ma G252
  replace HG := HG.n1 G252
  obtain ⟨w255, G256, G257⟩ := V.Fr.two G253
  have z258 := V.Fr.size G256
  try replace F_b := F_b.mb G256 hD_b
  try replace Fk2 := Fk2.ma G256
  try replace F10 := F10.ma G256
  try replace Fk47 := Fk47.ma G256
  try replace F56 := F56.ma G256
  try replace F198 := F198.ma G256
  try replace F219 := F219.ma G256
  try replace F220 := F220.ma G256
  try replace F221 := F221.ma G256
  try replace F236 := F236.ma G256
  try replace F181 := F181.ma G256
  replace HG := HG.n1 G256
  have z259 := V.Fr.size G257
  try replace F_b := F_b.mb G257 hD_b
  try replace Fk2 := Fk2.ma G257
  try replace F10 := F10.ma G257
  try replace Fk47 := Fk47.ma G257
  try replace F56 := F56.ma G257
  try replace F198 := F198.ma G257
  try replace F219 := F219.ma G257
  try replace F220 := F220.ma G257
  try replace F221 := F221.ma G257
  try replace F236 := F236.ma G257
  try replace F181 := F181.ma G257
  replace HG := HG.n1 G257
  simp only [V.spliceL, V.cellsL] at F248
  refine V.nt ?_
  refine V.seq ?_
  refine V.seq ?_
  have z260 : w241.heap.size ≤ w249.heap.size := by omega
  have hhF10_11 : w11.heap.size ≤ w249.heap.size := by omega
  have hhF198_11 : w199.heap.size ≤ w249.heap.size := by omega
  have hhF236_11 : w237.heap.size ≤ w249.heap.size := by omega
  try clear z254
  try clear z258
  try clear z259
  generalize hd12 : (rdS d11).2 = d12 at F246
  generalize hb12 : (b11 || decide (¬ (rdS d11).1.2 = 0)) = b12 at F247
  generalize hq12_0 : (rdS d11).1.1.1 = q12_0 at F248
  generalize hq12_1 : (rdS d11).1.1.2 = q12_1 at F248
  refine V.region ?_
  refine V.ru 1 ?_
  refine V.loadO T_ok F248 rfl rfl rfl rfl rfl ?_
  refine V.nt ?_
  refine V.block ?_
  refine V.sr ?_
  refine V.ru 2 ?_
  refine V.nt ?_
  refine V.condT rfl (fun h20 => ?_) (fun h20 => ?_)
  ·
   try replace h20 := V.dec h20
   try simp only [V.mk] at h20
   refine V.sr ?_
   refine V.ru 1 ?_
   refine V.call (mtk_text (Ft := F247) (FX := F246) (Fx := F221) (off := 0) (hle := rfl) (n1 := by omega) (n2 := by omega) (n3 := by omega) (n4 := (by intro h; first | exact n5 h.1 | (have := h.1; have := h.2; omega))) (n5 := (by intro h; first | exact n5 h.1 | (have := h.1; have := h.2; omega)))) rfl rfl rfl ?_
   rintro _ w264 ⟨rfl, F261, F262, F263, G265⟩
   obtain ⟨w266, G267, G268⟩ := V.Fr.cut G265
   have z269 := V.Fr.size G267
   try replace F_b := F_b.mb G267 hD_b
   try replace Fk2 := Fk2.ma G267
   try replace F10 := F10.ma G267
   try replace Fk47 := Fk47.ma G267
   try replace F56 := F56.ma G267
   try replace F198 := F198.ma G267
   try replace F221 := F221.ma G267
   try replace F236 := F236.ma G267
   try replace F246 := F246.ma G267
   try replace F247 := F247.ma G267
   try replace F248 := F248.ma G267
   replace HG := HG.n1 G267
   obtain ⟨w270, G271, G272⟩ := V.Fr.two G268
   have z273 := V.Fr.size G271
   try replace F_b := F_b.mb G271 hD_b
   try replace Fk2 := Fk2.ma G271
   try replace F10 := F10.ma G271
   try replace Fk47 := Fk47.ma G271
   try replace F56 := F56.ma G271
   try replace F198 := F198.ma G271
   try replace F221 := F221.ma G271
   try replace F236 := F236.ma G271
   try replace F246 := F246.ma G271
   try replace F247 := F247.ma G271
   try replace F248 := F248.ma G271
   replace HG := HG.n1 G271
   have z274 := V.Fr.size G272
   try replace F_b := F_b.mb G272 hD_b
   try replace Fk2 := Fk2.ma G272
   try replace F10 := F10.ma G272
   try replace Fk47 := Fk47.ma G272
   try replace F56 := F56.ma G272
   try replace F198 := F198.ma G272
   try replace F221 := F221.ma G272
   try replace F236 := F236.ma G272
   try replace F246 := F246.ma G272
   try replace F247 := F247.ma G272
   try replace F248 := F248.ma G272
   replace HG := HG.n1 G272
   simp only [V.spliceL, V.cellsL] at F263
   refine V.nt ?_
   have z275 : w249.heap.size ≤ w264.heap.size := by omega
   have hhF10_12 : w11.heap.size ≤ w264.heap.size := by omega
   have hhF198_12 : w199.heap.size ≤ w264.heap.size := by omega
   have hhF236_12 : w237.heap.size ≤ w264.heap.size := by omega
   try clear z269
   try clear z273
   try clear z274
   generalize hd13 : (rdT d12 65536).2 = d13 at F261
   generalize hb13 : (b12 || decide (¬ (rdT d12 65536).1.2 = 0)) = b13 at F262
   generalize hq13_0 : S (rdT d12 65536).1.1 = q13_0 at F263
   have hz13 := szT hq13_0
   have hm13 := szT2 hq13_0
   refine V.region ?_
   refine V.ru 3 ?_
   refine V.call (mtake_cmd (Ft := F262) (FX := F261) (Fx := F248) (off := 13) (hle := rfl) (n1 := by omega) (n2 := by omega) (n3 := by omega) (n4 := (by intro h; first | exact n5 h.1 | (have := h.1; have := h.2; omega))) (n5 := (by intro h; first | exact n5 h.1 | (have := h.1; have := h.2; omega))) (FDc := F263) (hs := by omega)) rfl rfl rfl ?_
   rintro _ w281 ⟨a276, c277, rfl, F278, F279, F280, G282⟩
   obtain ⟨w283, G284, G285⟩ := V.Fr.two G282
   have z286 := V.Fr.size G284
   try replace F_b := F_b.mb G284 hD_b
   try replace Fk2 := Fk2.ma G284
   try replace F10 := F10.ma G284
   try replace Fk47 := Fk47.ma G284
   try replace F56 := F56.ma G284
   try replace F198 := F198.ma G284
   try replace F236 := F236.ma G284
   try replace F248 := F248.ma G284
   try replace F261 := F261.ma G284
   try replace F262 := F262.ma G284
   try replace F263 := F263.ma G284
   replace HG := HG.n1 G284
   have z287 := V.Fr.size G285
   try replace F_b := F_b.mb G285 hD_b
   try replace Fk2 := Fk2.ma G285
   try replace F10 := F10.ma G285
   try replace Fk47 := Fk47.ma G285
   try replace F56 := F56.ma G285
   try replace F198 := F198.ma G285
   try replace F236 := F236.ma G285
   try replace F248 := F248.ma G285
   try replace F261 := F261.ma G285
   try replace F262 := F262.ma G285
   try replace F263 := F263.ma G285
   replace HG := HG.n1 G285
   simp only [V.spliceL, V.cellsL] at F279
   refine V.nil ?_
   refine V.bN ?_
   refine V.tN ?_
   refine V.seq ?_
   refine V.seq ?_
   have z288 : w264.heap.size ≤ w281.heap.size := by omega
   have hhF10_13 : w11.heap.size ≤ w281.heap.size := by omega
   have hhF198_13 : w199.heap.size ≤ w281.heap.size := by omega
   have hhF236_13 : w237.heap.size ≤ w281.heap.size := by omega
   try clear z286
   try clear z287
   generalize hb14 : (b13 || decide (¬ (if (decC q13_0.data.toList).isSome = true then (0 : Int) else 131) = 0)) = b14 at F278
   have hk14 : SzOk ((decC q13_0.data.toList).getD cmdZ) := sz_getD _
   generalize hq14_0 : (decC q13_0.data.toList).getD cmdZ = q14_0 at F279 F280 hk14
   have hR : decAllM x0 = ((⟨q1_0, q2_0, q3_0, q4_0, q5_0, q6_0, q7_0, q8_0, q9_0, q10_0, q11_0.data.toList, q12_0, q12_1, q14_0, resZ⟩ : MsgV), b14, d13) := by
    unfold decAllM; rw [kN_eq hq1_0 hb1 hd1, kN_eq hq2_0 hb2 hd2, kN_eq hq3_0 hb3 hd3, kN_eq hq4_0 hb4 hd4, kN_eq hq5_0 hb5 hd5, kN_eq hq6_0 hb6 hd6, kN_eq hq7_0 hb7 hd7, kN_eq hq8_0 hb8 hd8, kF_eq hq9_0 hb9 hd9, kE_eq hq10_0 hb10 hd10, kT_eq hq11_0 hb11 hd11, kS_eq hq12_0 hq12_1 hb12 hd12, if_pos h20, kT_eq hq13_0 hb13 hd13, kC_eq hq14_0 hb14]
   have hsz : SzM (⟨q1_0, q2_0, q3_0, q4_0, q5_0, q6_0, q7_0, q8_0, q9_0, q10_0, q11_0.data.toList, q12_0, q12_1, q14_0, resZ⟩ : MsgV) := ⟨hk14, szRZ⟩
   have hsz : SzM (⟨q1_0, q2_0, q3_0, q4_0, q5_0, q6_0, q7_0, q8_0, q9_0, q10_0, q11_0.data.toList, q12_0, q12_1, q14_0, (⟨0, 0, 0, [], false, 0, 0, ByteArray.empty, 0, 0, (⟨0, 0, 0, 0, 0, 0, 0, []⟩ : RecV)⟩ : ResV)⟩ : MsgV) := hsz
   refine V.region ?_
   refine V.ru 3 ?_
   refine V.loadO T_ok F278 rfl rfl rfl rfl rfl ?_
   refine V.ru 1 ?_
   refine V.split (j := 4) (t := 81) rfl rfl (fun g25_4 => ?_) (fun g25_4 => ?_)
   ·
    try replace g25_4 := V.dec g25_4
    try simp only [V.mk] at g25_4
    refine V.ru 12 ?_
    refine V.nt ?_
    refine V.condY rfl rfl ?_
    refine V.sr ?_
    refine V.mkStruct T_ok zero43 rfl rfl rfl rfl rfl ?_
    refine V.storeO Fk2 rfl rfl rfl rfl sz43 rfl rfl rfl rfl ?_
    rintro w289 G290 z292 Fs291
    clear Fk2
    have z293 := V.Fr.size G290
    try replace F_b := F_b.mb G290 hD_b
    try replace F10 := F10.ma G290
    try replace Fk47 := Fk47.ma G290
    try replace F56 := F56.ma G290
    try replace F198 := F198.ma G290
    try replace F236 := F236.ma G290
    try replace F261 := F261.ma G290
    try replace F263 := F263.ma G290
    try replace F278 := F278.ma G290
    try replace F279 := F279.ma G290
    try replace F280 := F280.ma G290
    replace HG := HG.n1 G290
    have Fk2 := Fs291; clear Fs291
    simp only [V.spliceL, V.cellsL] at Fk2
    refine V.ru 1 ?_
    refine V.nt ?_
    refine V.ret ?_
    refine V.tR ?_
    refine V.done2 rfl (V.resV_cell T_ok Fk2 rfl rfl) (V.resV_tmp rfl) ?_
    rw [show decMsg b = none from decM_no hw1 hR (by rintro ⟨y1, y2, y3⟩; first | (rw [y1] at g25_4; cases g25_4; done) | exact g25_12 (if_pos y2) | exact absurd y3 (by rw [show msgB (⟨q1_0, q2_0, q3_0, q4_0, q5_0, q6_0, q7_0, q8_0, q9_0, q10_0, q11_0.data.toList, q12_0, q12_1, q14_0, resZ⟩ : MsgV) = false from h25]; decide))]
    exact ⟨none, 0, none, 0, none, 0, none, 0, none, 0, (by first | rfl | simp only [List.length_set]), V.Row.nil, (Sl.nil _ _ _ _ _ (Nat.zero_le _)), V.Row.nil, V.Row.nil, (Sl.nil _ _ _ _ _ (Nat.zero_le _)), HG⟩
   ·
    try replace g25_4 := V.dec g25_4
    try simp only [V.mk] at g25_4
    refine V.ru 3 ?_
    refine V.yes rfl rfl rfl ?_
    refine V.loadO T_ok F278 rfl rfl rfl rfl rfl ?_
    refine V.yes rfl rfl rfl ?_
    refine V.call (rd_end F261) rfl rfl rfl ?_
    rintro _ w281_ ⟨rfl, rfl⟩
    refine V.ru 3 ?_
    refine V.split (j := 12) (t := 89) rfl rfl (fun g25_12 => ?_) (fun g25_12 => ?_)
    ·
     try replace g25_12 := V.dec g25_12
     try simp only [V.mk] at g25_12
     refine V.ru 4 ?_
     refine V.nt ?_
     refine V.condY rfl rfl ?_
     refine V.sr ?_
     refine V.mkStruct T_ok zero43 rfl rfl rfl rfl rfl ?_
     refine V.storeO Fk2 rfl rfl rfl rfl sz43 rfl rfl rfl rfl ?_
     rintro w295 G296 z298 Fs297
     clear Fk2
     have z299 := V.Fr.size G296
     try replace F_b := F_b.mb G296 hD_b
     try replace F10 := F10.ma G296
     try replace Fk47 := Fk47.ma G296
     try replace F56 := F56.ma G296
     try replace F198 := F198.ma G296
     try replace F236 := F236.ma G296
     try replace F261 := F261.ma G296
     try replace F263 := F263.ma G296
     try replace F278 := F278.ma G296
     try replace F279 := F279.ma G296
     try replace F280 := F280.ma G296
     replace HG := HG.n1 G296
     have Fk2 := Fs297; clear Fs297
     simp only [V.spliceL, V.cellsL] at Fk2
     refine V.ru 1 ?_
     refine V.nt ?_
     refine V.ret ?_
     refine V.tR ?_
     refine V.done2 rfl (V.resV_cell T_ok Fk2 rfl rfl) (V.resV_tmp rfl) ?_
     rw [show decMsg b = none from decM_no hw1 hR (by rintro ⟨y1, y2, y3⟩; first | (rw [y1] at g25_4; cases g25_4; done) | exact g25_12 (if_pos y2) | exact absurd y3 (by rw [show msgB (⟨q1_0, q2_0, q3_0, q4_0, q5_0, q6_0, q7_0, q8_0, q9_0, q10_0, q11_0.data.toList, q12_0, q12_1, q14_0, resZ⟩ : MsgV) = false from h25]; decide))]
     exact ⟨none, 0, none, 0, none, 0, none, 0, none, 0, (by first | rfl | simp only [List.length_set]), V.Row.nil, (Sl.nil _ _ _ _ _ (Nat.zero_le _)), V.Row.nil, V.Row.nil, (Sl.nil _ _ _ _ _ (Nat.zero_le _)), HG⟩
    ·
     try replace g25_12 := V.dec g25_12
     try simp only [V.mk] at g25_12
     refine V.yes rfl rfl rfl ?_
     refine V.loadO T_ok F279 rfl rfl rfl rfl rfl ?_
     refine V.yes rfl rfl rfl ?_
     refine V.call (mright_spec (mm := (⟨q1_0, q2_0, q3_0, q4_0, q5_0, q6_0, q7_0, q8_0, q9_0, q10_0, q11_0.data.toList, q12_0, q12_1, q14_0, (⟨0, 0, 0, [], false, 0, 0, ByteArray.empty, 0, 0, (⟨0, 0, 0, 0, 0, 0, 0, []⟩ : RecV)⟩ : ResV)⟩ : MsgV)) F198.sl (fun k hk => by have := hk.2; omega) F236 (fun k hk => by have := hk.2; omega) F280.sl (fun k hk => by have := hk.2; omega) (Sl.nil _ _ V.None' _ _ (Nat.zero_le _)) (fun _ h => h.elim) (Sl.nil _ _ V.None' _ _ (Nat.zero_le _)) (fun _ h => h.elim) (by first | (with_reducible assumption) | exact hz)) rfl rfl rfl ?_
     rintro _ w300 ⟨rfl, G301⟩
     have z302 := V.Fr.size G301
     try replace F_b := F_b.gr G301
     try replace Fk2 := Fk2.gr G301
     try replace F10 := F10.gr G301
     try replace Fk47 := Fk47.gr G301
     try replace F56 := F56.gr G301
     try replace F198 := F198.gr G301
     try replace F236 := F236.gr G301
     try replace F261 := F261.gr G301
     try replace F263 := F263.gr G301
     try replace F278 := F278.gr G301
     try replace F279 := F279.gr G301
     try replace F280 := F280.gr G301
     replace HG := HG.grow G301
     refine V.ru 2 ?_
     refine V.nt ?_
     refine V.condT rfl (fun h25 => ?_) (fun h25 => ?_)
     ·
      try replace h25 := V.dec h25
      try simp only [V.mk] at h25
      refine V.sr ?_
      refine V.mkStruct T_ok zero43 rfl rfl rfl rfl rfl ?_
      refine V.storeO Fk2 rfl rfl rfl rfl sz43 rfl rfl rfl rfl ?_
      rintro w303 G304 z306 Fs305
      clear Fk2
      have z307 := V.Fr.size G304
      try replace F_b := F_b.mb G304 hD_b
      try replace F10 := F10.ma G304
      try replace Fk47 := Fk47.ma G304
      try replace F56 := F56.ma G304
      try replace F198 := F198.ma G304
      try replace F236 := F236.ma G304
      try replace F261 := F261.ma G304
      try replace F263 := F263.ma G304
      try replace F278 := F278.ma G304
      try replace F279 := F279.ma G304
      try replace F280 := F280.ma G304
      replace HG := HG.n1 G304
      have Fk2 := Fs305; clear Fs305
      simp only [V.spliceL, V.cellsL] at Fk2
      refine V.ru 1 ?_
      refine V.nt ?_
      refine V.ret ?_
      refine V.tR ?_
      refine V.done2 rfl (V.resV_cell T_ok Fk2 rfl rfl) (V.resV_tmp rfl) ?_
      rw [show decMsg b = none from decM_no hw1 hR (by rintro ⟨y1, y2, y3⟩; first | (rw [y1] at g25_4; cases g25_4; done) | exact g25_12 (if_pos y2) | exact absurd y3 (by rw [show msgB (⟨q1_0, q2_0, q3_0, q4_0, q5_0, q6_0, q7_0, q8_0, q9_0, q10_0, q11_0.data.toList, q12_0, q12_1, q14_0, resZ⟩ : MsgV) = false from h25]; decide))]
      exact ⟨none, 0, none, 0, none, 0, none, 0, none, 0, (by first | rfl | simp only [List.length_set]), V.Row.nil, (Sl.nil _ _ _ _ _ (Nat.zero_le _)), V.Row.nil, V.Row.nil, (Sl.nil _ _ _ _ _ (Nat.zero_le _)), HG⟩
     ·
      try replace h25 := V.dec h25
      try simp only [V.mk] at h25
      refine V.skip ?_
      refine V.tN ?_
      refine V.sr ?_
      refine V.loadO T_ok F279 rfl rfl rfl rfl rfl ?_
      refine V.storeO Fk2 rfl rfl rfl rfl sz43 rfl rfl rfl rfl ?_
      rintro w308 G309 z311 Fs310
      clear Fk2
      have z312 := V.Fr.size G309
      try replace F_b := F_b.mb G309 hD_b
      try replace F10 := F10.ma G309
      try replace Fk47 := Fk47.ma G309
      try replace F56 := F56.ma G309
      try replace F198 := F198.ma G309
      try replace F236 := F236.ma G309
      try replace F261 := F261.ma G309
      try replace F263 := F263.ma G309
      try replace F278 := F278.ma G309
      try replace F279 := F279.ma G309
      try replace F280 := F280.ma G309
      replace HG := HG.n1 G309
      have Fk2 := Fs310; clear Fs310
      simp only [V.spliceL, V.cellsL] at Fk2
      refine V.ru 1 ?_
      refine V.nt ?_
      refine V.ret ?_
      refine V.done2 rfl (V.resV_cell T_ok Fk2 rfl rfl) (V.resV_tmp rfl) ?_
      rw [show decMsg b = some (⟨q1_0, q2_0, q3_0, q4_0, q5_0, q6_0, q7_0, q8_0, q9_0, q10_0, q11_0.data.toList, q12_0, q12_1, q14_0, resZ⟩ : MsgV) from decM_yes h2 hw1 hR (by exact g25_4) (by by_cases hd : d13 = []; exact hd; rw [if_neg hd] at g25_12; cases g25_12) (by exact h25)]
      exact ⟨a194, c195, a234, c235, a276, c277, none, 0, none, 0, (by first | rfl | simp only [List.length_set]), F198.re, F236.re, F280.re, V.Row.nil, (Sl.nil _ _ _ _ _ (Nat.zero_le _)), HG⟩
  ·
   try replace h20 := V.dec h20
   try simp only [V.mk] at h20
   refine V.sr ?_
   refine V.ru 2 ?_
   refine V.nt ?_
   refine V.condT rfl (fun h23 => ?_) (fun h23 => ?_)
   ·
    try replace h23 := V.dec h23
    try simp only [V.mk] at h23
    refine V.region ?_
    refine V.ru 1 ?_
    refine V.call (mtk_res (Ft := F247) (FX := F246) (n1 := by omega) (n5 := (by intro h; first | exact n5 h.1 | (have := h.1; have := h.2; omega)))) rfl rfl rfl ?_
    rintro _ w321 ⟨a313, c314, a315, c316, rfl, F317, F318, F319, F320, G322⟩
    obtain ⟨w323, G324, G325⟩ := V.Fr.two G322
    have z326 := V.Fr.size G324
    try replace F_b := F_b.mb G324 hD_b
    try replace Fk2 := Fk2.ma G324
    try replace F10 := F10.ma G324
    try replace Fk47 := Fk47.ma G324
    try replace F56 := F56.ma G324
    try replace F198 := F198.ma G324
    try replace F221 := F221.ma G324
    try replace F236 := F236.ma G324
    try replace F246 := F246.ma G324
    try replace F247 := F247.ma G324
    try replace F248 := F248.ma G324
    replace HG := HG.n1 G324
    have z327 := V.Fr.size G325
    try replace F_b := F_b.mb G325 hD_b
    try replace Fk2 := Fk2.ma G325
    try replace F10 := F10.ma G325
    try replace Fk47 := Fk47.ma G325
    try replace F56 := F56.ma G325
    try replace F198 := F198.ma G325
    try replace F221 := F221.ma G325
    try replace F236 := F236.ma G325
    try replace F246 := F246.ma G325
    try replace F247 := F247.ma G325
    try replace F248 := F248.ma G325
    replace HG := HG.n1 G325
    refine V.ru 1 ?_
    refine V.storeO F248 rfl rfl rfl rfl sz41 rfl rfl rfl rfl ?_
    rintro w328 G329 z331 Fs330
    clear F248
    have z332 := V.Fr.size G329
    try replace F_b := F_b.mb G329 hD_b
    try replace Fk2 := Fk2.ma G329
    try replace F10 := F10.ma G329
    try replace Fk47 := Fk47.ma G329
    try replace F56 := F56.ma G329
    try replace F198 := F198.ma G329
    try replace F221 := F221.ma G329
    try replace F236 := F236.ma G329
    try replace F317 := F317.ma G329
    try replace F318 := F318.ma G329
    try replace F319 := F319.ma G329
    try replace F320 := F320.ma G329
    replace HG := HG.n1 G329
    have F248 := Fs330; clear Fs330
    simp only [V.spliceL, V.cellsL] at F248
    refine V.nil ?_
    refine V.bN ?_
    refine V.tN ?_
    refine V.seq ?_
    refine V.seq ?_
    have z333 : w249.heap.size ≤ w328.heap.size := by omega
    have hhF10_14 : w11.heap.size ≤ w328.heap.size := by omega
    have hhF198_14 : w199.heap.size ≤ w328.heap.size := by omega
    have hhF236_14 : w237.heap.size ≤ w328.heap.size := by omega
    have hhF319_14 : w321.heap.size ≤ w328.heap.size := by omega
    have hhF320_14 : w321.heap.size ≤ w328.heap.size := by omega
    try clear z269
    try clear z273
    try clear z274
    try clear z275
    try clear z286
    try clear z287
    try clear z288
    try clear z292
    try clear z293
    try clear z298
    try clear z299
    try clear z302
    try clear z306
    try clear z307
    try clear z311
    try clear z312
    try clear z326
    try clear z327
    try clear z331
    try clear z332
    generalize hd15 : (resL b12 d12).2.2 = d15 at F317
    generalize hb15 : (resL b12 d12).2.1 = b15 at F318
    have hk15 : SzR ((resL b12 d12).1) := resL_sz _ _
    generalize hq15_0 : (resL b12 d12).1 = q15_0 at F319 F320 F248 hk15 ⊢
    have hR : decAllM x0 = ((⟨q1_0, q2_0, q3_0, q4_0, q5_0, q6_0, q7_0, q8_0, q9_0, q10_0, q11_0.data.toList, q12_0, q12_1, cmdZ, q15_0⟩ : MsgV), b15, d15) := by
     unfold decAllM; rw [kN_eq hq1_0 hb1 hd1, kN_eq hq2_0 hb2 hd2, kN_eq hq3_0 hb3 hd3, kN_eq hq4_0 hb4 hd4, kN_eq hq5_0 hb5 hd5, kN_eq hq6_0 hb6 hd6, kN_eq hq7_0 hb7 hd7, kN_eq hq8_0 hb8 hd8, kF_eq hq9_0 hb9 hd9, kE_eq hq10_0 hb10 hd10, kT_eq hq11_0 hb11 hd11, kS_eq hq12_0 hq12_1 hb12 hd12, if_neg h20, if_pos h23, kX_eq hq15_0 hb15 hd15]
    have hsz : SzM (⟨q1_0, q2_0, q3_0, q4_0, q5_0, q6_0, q7_0, q8_0, q9_0, q10_0, q11_0.data.toList, q12_0, q12_1, cmdZ, q15_0⟩ : MsgV) := ⟨szZ, hk15⟩
    have hsz : SzM (⟨q1_0, q2_0, q3_0, q4_0, q5_0, q6_0, q7_0, q8_0, q9_0, q10_0, q11_0.data.toList, q12_0, q12_1, (⟨0, 0, 0, 0, 0, 0, ByteArray.empty, 0, 0, 0, ByteArray.empty, ByteArray.empty, ByteArray.empty, false, 0, 0, 0, 0, false, false, [], 0⟩ : CmdV), q15_0⟩ : MsgV) := hsz
    refine V.region ?_
    refine V.ru 3 ?_
    refine V.loadO T_ok F318 rfl rfl rfl rfl rfl ?_
    refine V.ru 1 ?_
    refine V.split (j := 4) (t := 81) rfl rfl (fun g25_4 => ?_) (fun g25_4 => ?_)
    ·
     try replace g25_4 := V.dec g25_4
     try simp only [V.mk] at g25_4
     refine V.ru 12 ?_
     refine V.nt ?_
     refine V.condY rfl rfl ?_
     refine V.sr ?_
     refine V.mkStruct T_ok zero43 rfl rfl rfl rfl rfl ?_
     refine V.storeO Fk2 rfl rfl rfl rfl sz43 rfl rfl rfl rfl ?_
     rintro w334 G335 z337 Fs336
     clear Fk2
     have z338 := V.Fr.size G335
     try replace F_b := F_b.mb G335 hD_b
     try replace F10 := F10.ma G335
     try replace Fk47 := Fk47.ma G335
     try replace F56 := F56.ma G335
     try replace F198 := F198.ma G335
     try replace F221 := F221.ma G335
     try replace F236 := F236.ma G335
     try replace F317 := F317.ma G335
     try replace F318 := F318.ma G335
     try replace F319 := F319.ma G335
     try replace F320 := F320.ma G335
     try replace F248 := F248.ma G335
     replace HG := HG.n1 G335
     have Fk2 := Fs336; clear Fs336
     simp only [V.spliceL, V.cellsL] at Fk2
     refine V.ru 1 ?_
     refine V.nt ?_
     refine V.ret ?_
     refine V.tR ?_
     refine V.done2 rfl (V.resV_cell T_ok Fk2 rfl rfl) (V.resV_tmp rfl) ?_
     rw [show decMsg b = none from decM_no hw1 hR (by rintro ⟨y1, y2, y3⟩; first | (rw [y1] at g25_4; cases g25_4; done) | exact g25_12 (if_pos y2) | exact absurd y3 (by rw [show msgB (⟨q1_0, q2_0, q3_0, q4_0, q5_0, q6_0, q7_0, q8_0, q9_0, q10_0, q11_0.data.toList, q12_0, q12_1, cmdZ, q15_0⟩ : MsgV) = false from h25]; decide))]
     exact ⟨none, 0, none, 0, none, 0, none, 0, none, 0, (by first | rfl | simp only [List.length_set]), V.Row.nil, (Sl.nil _ _ _ _ _ (Nat.zero_le _)), V.Row.nil, V.Row.nil, (Sl.nil _ _ _ _ _ (Nat.zero_le _)), HG⟩
    ·
     try replace g25_4 := V.dec g25_4
     try simp only [V.mk] at g25_4
     refine V.ru 3 ?_
     refine V.yes rfl rfl rfl ?_
     refine V.loadO T_ok F318 rfl rfl rfl rfl rfl ?_
     refine V.yes rfl rfl rfl ?_
     refine V.call (rd_end F317) rfl rfl rfl ?_
     rintro _ w328_ ⟨rfl, rfl⟩
     refine V.ru 3 ?_
     refine V.split (j := 12) (t := 89) rfl rfl (fun g25_12 => ?_) (fun g25_12 => ?_)
     ·
      try replace g25_12 := V.dec g25_12
      try simp only [V.mk] at g25_12
      refine V.ru 4 ?_
      refine V.nt ?_
      refine V.condY rfl rfl ?_
      refine V.sr ?_
      refine V.mkStruct T_ok zero43 rfl rfl rfl rfl rfl ?_
      refine V.storeO Fk2 rfl rfl rfl rfl sz43 rfl rfl rfl rfl ?_
      rintro w340 G341 z343 Fs342
      clear Fk2
      have z344 := V.Fr.size G341
      try replace F_b := F_b.mb G341 hD_b
      try replace F10 := F10.ma G341
      try replace Fk47 := Fk47.ma G341
      try replace F56 := F56.ma G341
      try replace F198 := F198.ma G341
      try replace F221 := F221.ma G341
      try replace F236 := F236.ma G341
      try replace F317 := F317.ma G341
      try replace F318 := F318.ma G341
      try replace F319 := F319.ma G341
      try replace F320 := F320.ma G341
      try replace F248 := F248.ma G341
      replace HG := HG.n1 G341
      have Fk2 := Fs342; clear Fs342
      simp only [V.spliceL, V.cellsL] at Fk2
      refine V.ru 1 ?_
      refine V.nt ?_
      refine V.ret ?_
      refine V.tR ?_
      refine V.done2 rfl (V.resV_cell T_ok Fk2 rfl rfl) (V.resV_tmp rfl) ?_
      rw [show decMsg b = none from decM_no hw1 hR (by rintro ⟨y1, y2, y3⟩; first | (rw [y1] at g25_4; cases g25_4; done) | exact g25_12 (if_pos y2) | exact absurd y3 (by rw [show msgB (⟨q1_0, q2_0, q3_0, q4_0, q5_0, q6_0, q7_0, q8_0, q9_0, q10_0, q11_0.data.toList, q12_0, q12_1, cmdZ, q15_0⟩ : MsgV) = false from h25]; decide))]
      exact ⟨none, 0, none, 0, none, 0, none, 0, none, 0, (by first | rfl | simp only [List.length_set]), V.Row.nil, (Sl.nil _ _ _ _ _ (Nat.zero_le _)), V.Row.nil, V.Row.nil, (Sl.nil _ _ _ _ _ (Nat.zero_le _)), HG⟩
     ·
      try replace g25_12 := V.dec g25_12
      try simp only [V.mk] at g25_12
      refine V.yes rfl rfl rfl ?_
      refine V.loadO T_ok F248 rfl rfl rfl rfl rfl ?_
      refine V.yes rfl rfl rfl ?_
      refine V.call (mright_spec (mm := (⟨q1_0, q2_0, q3_0, q4_0, q5_0, q6_0, q7_0, q8_0, q9_0, q10_0, q11_0.data.toList, q12_0, q12_1, (⟨0, 0, 0, 0, 0, 0, ByteArray.empty, 0, 0, 0, ByteArray.empty, ByteArray.empty, ByteArray.empty, false, 0, 0, 0, 0, false, false, [], 0⟩ : CmdV), q15_0⟩ : MsgV)) F198.sl (fun k hk => by have := hk.2; omega) F236 (fun k hk => by have := hk.2; omega) (Sl.nil _ _ V.None' _ _ (Nat.zero_le _)) (fun _ h => h.elim) F319.sl (fun k hk => by have := hk.2; omega) F320 (fun k hk => by have := hk.2; omega) (by first | (with_reducible assumption) | exact hz)) rfl rfl rfl ?_
      rintro _ w345 ⟨rfl, G346⟩
      have z347 := V.Fr.size G346
      try replace F_b := F_b.gr G346
      try replace Fk2 := Fk2.gr G346
      try replace F10 := F10.gr G346
      try replace Fk47 := Fk47.gr G346
      try replace F56 := F56.gr G346
      try replace F198 := F198.gr G346
      try replace F221 := F221.gr G346
      try replace F236 := F236.gr G346
      try replace F317 := F317.gr G346
      try replace F318 := F318.gr G346
      try replace F319 := F319.gr G346
      try replace F320 := F320.gr G346
      try replace F248 := F248.gr G346
      replace HG := HG.grow G346
      refine V.ru 2 ?_
      refine V.nt ?_
      refine V.condT rfl (fun h25 => ?_) (fun h25 => ?_)
      ·
       try replace h25 := V.dec h25
       try simp only [V.mk] at h25
       refine V.sr ?_
       refine V.mkStruct T_ok zero43 rfl rfl rfl rfl rfl ?_
       refine V.storeO Fk2 rfl rfl rfl rfl sz43 rfl rfl rfl rfl ?_
       rintro w348 G349 z351 Fs350
       clear Fk2
       have z352 := V.Fr.size G349
       try replace F_b := F_b.mb G349 hD_b
       try replace F10 := F10.ma G349
       try replace Fk47 := Fk47.ma G349
       try replace F56 := F56.ma G349
       try replace F198 := F198.ma G349
       try replace F221 := F221.ma G349
       try replace F236 := F236.ma G349
       try replace F317 := F317.ma G349
       try replace F318 := F318.ma G349
       try replace F319 := F319.ma G349
       try replace F320 := F320.ma G349
       try replace F248 := F248.ma G349
       replace HG := HG.n1 G349
       have Fk2 := Fs350; clear Fs350
       simp only [V.spliceL, V.cellsL] at Fk2
       refine V.ru 1 ?_
       refine V.nt ?_
       refine V.ret ?_
       refine V.tR ?_
       refine V.done2 rfl (V.resV_cell T_ok Fk2 rfl rfl) (V.resV_tmp rfl) ?_
       rw [show decMsg b = none from decM_no hw1 hR (by rintro ⟨y1, y2, y3⟩; first | (rw [y1] at g25_4; cases g25_4; done) | exact g25_12 (if_pos y2) | exact absurd y3 (by rw [show msgB (⟨q1_0, q2_0, q3_0, q4_0, q5_0, q6_0, q7_0, q8_0, q9_0, q10_0, q11_0.data.toList, q12_0, q12_1, cmdZ, q15_0⟩ : MsgV) = false from h25]; decide))]
       exact ⟨none, 0, none, 0, none, 0, none, 0, none, 0, (by first | rfl | simp only [List.length_set]), V.Row.nil, (Sl.nil _ _ _ _ _ (Nat.zero_le _)), V.Row.nil, V.Row.nil, (Sl.nil _ _ _ _ _ (Nat.zero_le _)), HG⟩
      ·
       try replace h25 := V.dec h25
       try simp only [V.mk] at h25
       refine V.skip ?_
       refine V.tN ?_
       refine V.sr ?_
       refine V.loadO T_ok F248 rfl rfl rfl rfl rfl ?_
       refine V.storeO Fk2 rfl rfl rfl rfl sz43 rfl rfl rfl rfl ?_
       rintro w353 G354 z356 Fs355
       clear Fk2
       have z357 := V.Fr.size G354
       try replace F_b := F_b.mb G354 hD_b
       try replace F10 := F10.ma G354
       try replace Fk47 := Fk47.ma G354
       try replace F56 := F56.ma G354
       try replace F198 := F198.ma G354
       try replace F221 := F221.ma G354
       try replace F236 := F236.ma G354
       try replace F317 := F317.ma G354
       try replace F318 := F318.ma G354
       try replace F319 := F319.ma G354
       try replace F320 := F320.ma G354
       try replace F248 := F248.ma G354
       replace HG := HG.n1 G354
       have Fk2 := Fs355; clear Fs355
       simp only [V.spliceL, V.cellsL] at Fk2
       refine V.ru 1 ?_
       refine V.nt ?_
       refine V.ret ?_
       refine V.done2 rfl (V.resV_cell T_ok Fk2 rfl rfl) (V.resV_tmp rfl) ?_
       rw [show decMsg b = some (⟨q1_0, q2_0, q3_0, q4_0, q5_0, q6_0, q7_0, q8_0, q9_0, q10_0, q11_0.data.toList, q12_0, q12_1, cmdZ, q15_0⟩ : MsgV) from decM_yes h2 hw1 hR (by exact g25_4) (by by_cases hd : d15 = []; exact hd; rw [if_neg hd] at g25_12; cases g25_12) (by exact h25)]
       exact ⟨a194, c195, a234, c235, none, 0, a313, c314, a315, c316, (by first | rfl | simp only [List.length_set]), F198.re, F236.re, V.Row.nil, F319.re, F320.re, HG⟩
   ·
    try replace h23 := V.dec h23
    try simp only [V.mk] at h23
    refine V.skip ?_
    refine V.bN ?_
    refine V.tN ?_
    refine V.seq ?_
    refine V.seq ?_
    have hR : decAllM x0 = ((⟨q1_0, q2_0, q3_0, q4_0, q5_0, q6_0, q7_0, q8_0, q9_0, q10_0, q11_0.data.toList, q12_0, q12_1, cmdZ, resZ⟩ : MsgV), b12, d12) := by
     unfold decAllM; rw [kN_eq hq1_0 hb1 hd1, kN_eq hq2_0 hb2 hd2, kN_eq hq3_0 hb3 hd3, kN_eq hq4_0 hb4 hd4, kN_eq hq5_0 hb5 hd5, kN_eq hq6_0 hb6 hd6, kN_eq hq7_0 hb7 hd7, kN_eq hq8_0 hb8 hd8, kF_eq hq9_0 hb9 hd9, kE_eq hq10_0 hb10 hd10, kT_eq hq11_0 hb11 hd11, kS_eq hq12_0 hq12_1 hb12 hd12, if_neg h20, if_neg h23]
    have hsz : SzM (⟨q1_0, q2_0, q3_0, q4_0, q5_0, q6_0, q7_0, q8_0, q9_0, q10_0, q11_0.data.toList, q12_0, q12_1, cmdZ, resZ⟩ : MsgV) := ⟨szZ, szRZ⟩
    have hsz : SzM (⟨q1_0, q2_0, q3_0, q4_0, q5_0, q6_0, q7_0, q8_0, q9_0, q10_0, q11_0.data.toList, q12_0, q12_1, (⟨0, 0, 0, 0, 0, 0, ByteArray.empty, 0, 0, 0, ByteArray.empty, ByteArray.empty, ByteArray.empty, false, 0, 0, 0, 0, false, false, [], 0⟩ : CmdV), (⟨0, 0, 0, [], false, 0, 0, ByteArray.empty, 0, 0, (⟨0, 0, 0, 0, 0, 0, 0, []⟩ : RecV)⟩ : ResV)⟩ : MsgV) := hsz
    refine V.region ?_
    refine V.ru 3 ?_
    refine V.loadO T_ok F247 rfl rfl rfl rfl rfl ?_
    refine V.ru 1 ?_
    refine V.split (j := 4) (t := 81) rfl rfl (fun g25_4 => ?_) (fun g25_4 => ?_)
    ·
     try replace g25_4 := V.dec g25_4
     try simp only [V.mk] at g25_4
     refine V.ru 12 ?_
     refine V.nt ?_
     refine V.condY rfl rfl ?_
     refine V.sr ?_
     refine V.mkStruct T_ok zero43 rfl rfl rfl rfl rfl ?_
     refine V.storeO Fk2 rfl rfl rfl rfl sz43 rfl rfl rfl rfl ?_
     rintro w358 G359 z361 Fs360
     clear Fk2
     have z362 := V.Fr.size G359
     try replace F_b := F_b.mb G359 hD_b
     try replace F10 := F10.ma G359
     try replace Fk47 := Fk47.ma G359
     try replace F56 := F56.ma G359
     try replace F198 := F198.ma G359
     try replace F221 := F221.ma G359
     try replace F236 := F236.ma G359
     try replace F246 := F246.ma G359
     try replace F247 := F247.ma G359
     try replace F248 := F248.ma G359
     replace HG := HG.n1 G359
     have Fk2 := Fs360; clear Fs360
     simp only [V.spliceL, V.cellsL] at Fk2
     refine V.ru 1 ?_
     refine V.nt ?_
     refine V.ret ?_
     refine V.tR ?_
     refine V.done2 rfl (V.resV_cell T_ok Fk2 rfl rfl) (V.resV_tmp rfl) ?_
     rw [show decMsg b = none from decM_no hw1 hR (by rintro ⟨y1, y2, y3⟩; first | (rw [y1] at g25_4; cases g25_4; done) | exact g25_12 (if_pos y2) | exact absurd y3 (by rw [show msgB (⟨q1_0, q2_0, q3_0, q4_0, q5_0, q6_0, q7_0, q8_0, q9_0, q10_0, q11_0.data.toList, q12_0, q12_1, cmdZ, resZ⟩ : MsgV) = false from h25]; decide))]
     exact ⟨none, 0, none, 0, none, 0, none, 0, none, 0, (by first | rfl | simp only [List.length_set]), V.Row.nil, (Sl.nil _ _ _ _ _ (Nat.zero_le _)), V.Row.nil, V.Row.nil, (Sl.nil _ _ _ _ _ (Nat.zero_le _)), HG⟩
    ·
     try replace g25_4 := V.dec g25_4
     try simp only [V.mk] at g25_4
     refine V.ru 3 ?_
     refine V.yes rfl rfl rfl ?_
     refine V.loadO T_ok F247 rfl rfl rfl rfl rfl ?_
     refine V.yes rfl rfl rfl ?_
     refine V.call (rd_end F246) rfl rfl rfl ?_
     rintro _ w249_ ⟨rfl, rfl⟩
     refine V.ru 3 ?_
     refine V.split (j := 12) (t := 89) rfl rfl (fun g25_12 => ?_) (fun g25_12 => ?_)
     ·
      try replace g25_12 := V.dec g25_12
      try simp only [V.mk] at g25_12
      refine V.ru 4 ?_
      refine V.nt ?_
      refine V.condY rfl rfl ?_
      refine V.sr ?_
      refine V.mkStruct T_ok zero43 rfl rfl rfl rfl rfl ?_
      refine V.storeO Fk2 rfl rfl rfl rfl sz43 rfl rfl rfl rfl ?_
      rintro w364 G365 z367 Fs366
      clear Fk2
      have z368 := V.Fr.size G365
      try replace F_b := F_b.mb G365 hD_b
      try replace F10 := F10.ma G365
      try replace Fk47 := Fk47.ma G365
      try replace F56 := F56.ma G365
      try replace F198 := F198.ma G365
      try replace F221 := F221.ma G365
      try replace F236 := F236.ma G365
      try replace F246 := F246.ma G365
      try replace F247 := F247.ma G365
      try replace F248 := F248.ma G365
      replace HG := HG.n1 G365
      have Fk2 := Fs366; clear Fs366
      simp only [V.spliceL, V.cellsL] at Fk2
      refine V.ru 1 ?_
      refine V.nt ?_
      refine V.ret ?_
      refine V.tR ?_
      refine V.done2 rfl (V.resV_cell T_ok Fk2 rfl rfl) (V.resV_tmp rfl) ?_
      rw [show decMsg b = none from decM_no hw1 hR (by rintro ⟨y1, y2, y3⟩; first | (rw [y1] at g25_4; cases g25_4; done) | exact g25_12 (if_pos y2) | exact absurd y3 (by rw [show msgB (⟨q1_0, q2_0, q3_0, q4_0, q5_0, q6_0, q7_0, q8_0, q9_0, q10_0, q11_0.data.toList, q12_0, q12_1, cmdZ, resZ⟩ : MsgV) = false from h25]; decide))]
      exact ⟨none, 0, none, 0, none, 0, none, 0, none, 0, (by first | rfl | simp only [List.length_set]), V.Row.nil, (Sl.nil _ _ _ _ _ (Nat.zero_le _)), V.Row.nil, V.Row.nil, (Sl.nil _ _ _ _ _ (Nat.zero_le _)), HG⟩
     ·
      try replace g25_12 := V.dec g25_12
      try simp only [V.mk] at g25_12
      refine V.yes rfl rfl rfl ?_
      refine V.loadO T_ok F248 rfl rfl rfl rfl rfl ?_
      refine V.yes rfl rfl rfl ?_
      refine V.call (mright_spec (mm := (⟨q1_0, q2_0, q3_0, q4_0, q5_0, q6_0, q7_0, q8_0, q9_0, q10_0, q11_0.data.toList, q12_0, q12_1, (⟨0, 0, 0, 0, 0, 0, ByteArray.empty, 0, 0, 0, ByteArray.empty, ByteArray.empty, ByteArray.empty, false, 0, 0, 0, 0, false, false, [], 0⟩ : CmdV), (⟨0, 0, 0, [], false, 0, 0, ByteArray.empty, 0, 0, (⟨0, 0, 0, 0, 0, 0, 0, []⟩ : RecV)⟩ : ResV)⟩ : MsgV)) F198.sl (fun k hk => by have := hk.2; omega) F236 (fun k hk => by have := hk.2; omega) (Sl.nil _ _ V.None' _ _ (Nat.zero_le _)) (fun _ h => h.elim) (Sl.nil _ _ V.None' _ _ (Nat.zero_le _)) (fun _ h => h.elim) (Sl.nil _ _ V.None' _ _ (Nat.zero_le _)) (fun _ h => h.elim) (by first | (with_reducible assumption) | exact hz)) rfl rfl rfl ?_
      rintro _ w369 ⟨rfl, G370⟩
      have z371 := V.Fr.size G370
      try replace F_b := F_b.gr G370
      try replace Fk2 := Fk2.gr G370
      try replace F10 := F10.gr G370
      try replace Fk47 := Fk47.gr G370
      try replace F56 := F56.gr G370
      try replace F198 := F198.gr G370
      try replace F221 := F221.gr G370
      try replace F236 := F236.gr G370
      try replace F246 := F246.gr G370
      try replace F247 := F247.gr G370
      try replace F248 := F248.gr G370
      replace HG := HG.grow G370
      refine V.ru 2 ?_
      refine V.nt ?_
      refine V.condT rfl (fun h25 => ?_) (fun h25 => ?_)
      ·
       try replace h25 := V.dec h25
       try simp only [V.mk] at h25
       refine V.sr ?_
       refine V.mkStruct T_ok zero43 rfl rfl rfl rfl rfl ?_
       refine V.storeO Fk2 rfl rfl rfl rfl sz43 rfl rfl rfl rfl ?_
       rintro w372 G373 z375 Fs374
       clear Fk2
       have z376 := V.Fr.size G373
       try replace F_b := F_b.mb G373 hD_b
       try replace F10 := F10.ma G373
       try replace Fk47 := Fk47.ma G373
       try replace F56 := F56.ma G373
       try replace F198 := F198.ma G373
       try replace F221 := F221.ma G373
       try replace F236 := F236.ma G373
       try replace F246 := F246.ma G373
       try replace F247 := F247.ma G373
       try replace F248 := F248.ma G373
       replace HG := HG.n1 G373
       have Fk2 := Fs374; clear Fs374
       simp only [V.spliceL, V.cellsL] at Fk2
       refine V.ru 1 ?_
       refine V.nt ?_
       refine V.ret ?_
       refine V.tR ?_
       refine V.done2 rfl (V.resV_cell T_ok Fk2 rfl rfl) (V.resV_tmp rfl) ?_
       rw [show decMsg b = none from decM_no hw1 hR (by rintro ⟨y1, y2, y3⟩; first | (rw [y1] at g25_4; cases g25_4; done) | exact g25_12 (if_pos y2) | exact absurd y3 (by rw [show msgB (⟨q1_0, q2_0, q3_0, q4_0, q5_0, q6_0, q7_0, q8_0, q9_0, q10_0, q11_0.data.toList, q12_0, q12_1, cmdZ, resZ⟩ : MsgV) = false from h25]; decide))]
       exact ⟨none, 0, none, 0, none, 0, none, 0, none, 0, (by first | rfl | simp only [List.length_set]), V.Row.nil, (Sl.nil _ _ _ _ _ (Nat.zero_le _)), V.Row.nil, V.Row.nil, (Sl.nil _ _ _ _ _ (Nat.zero_le _)), HG⟩
      ·
       try replace h25 := V.dec h25
       try simp only [V.mk] at h25
       refine V.skip ?_
       refine V.tN ?_
       refine V.sr ?_
       refine V.loadO T_ok F248 rfl rfl rfl rfl rfl ?_
       refine V.storeO Fk2 rfl rfl rfl rfl sz43 rfl rfl rfl rfl ?_
       rintro w377 G378 z380 Fs379
       clear Fk2
       have z381 := V.Fr.size G378
       try replace F_b := F_b.mb G378 hD_b
       try replace F10 := F10.ma G378
       try replace Fk47 := Fk47.ma G378
       try replace F56 := F56.ma G378
       try replace F198 := F198.ma G378
       try replace F221 := F221.ma G378
       try replace F236 := F236.ma G378
       try replace F246 := F246.ma G378
       try replace F247 := F247.ma G378
       try replace F248 := F248.ma G378
       replace HG := HG.n1 G378
       have Fk2 := Fs379; clear Fs379
       simp only [V.spliceL, V.cellsL] at Fk2
       refine V.ru 1 ?_
       refine V.nt ?_
       refine V.ret ?_
       refine V.done2 rfl (V.resV_cell T_ok Fk2 rfl rfl) (V.resV_tmp rfl) ?_
       rw [show decMsg b = some (⟨q1_0, q2_0, q3_0, q4_0, q5_0, q6_0, q7_0, q8_0, q9_0, q10_0, q11_0.data.toList, q12_0, q12_1, cmdZ, resZ⟩ : MsgV) from decM_yes h2 hw1 hR (by exact g25_4) (by by_cases hd : d12 = []; exact hd; rw [if_neg hd] at g25_12; cases g25_12) (by exact h25)]
       exact ⟨a194, c195, a234, c235, none, 0, none, 0, none, 0, (by first | rfl | simp only [List.length_set]), F198.re, F236.re, V.Row.nil, V.Row.nil, (Sl.nil _ _ _ _ _ (Nat.zero_le _)), HG⟩

end Go.Proofs.Ytooiimhcfgjbgaa
