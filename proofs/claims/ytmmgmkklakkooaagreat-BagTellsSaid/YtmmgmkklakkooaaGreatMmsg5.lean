/- Proved here: walks: what functions of this seat's program return and what they leave of memory, each as a contract. Conditions: stated at each theorem. -/
import Derived.Test.YtmmgmkklakkooaaGreatMmsg4
namespace Go.Proofs.YtmmgmkklakkooaaGreat
set_option linter.unusedVariables false
set_option linter.unusedSimpArgs false
open Go
open V (Bytes Meets Env Sl Own Gr Fr Cells S)

def kE {α : Type} (b : Bool) (d : List UInt8) (k : List (Int × List UInt8) → Bool → List UInt8 → α) : α := k (ents b d).2.2 (ents b d).1 (ents b d).2.1
def kX {α : Type} (b : Bool) (d : List UInt8) (k : ResV → Bool → List UInt8 → α) : α := k (resL b d).1 (resL b d).2.1 (resL b d).2.2
def kC {α : Type} (s : ByteArray) (b : Bool) (d : List UInt8) (k : CmdV → Bool → List UInt8 → α) : α := k ((decC s.data.toList).getD cmdZ) (b || decide (¬ (if (decC s.data.toList).isSome = true then (0 : Int) else 131) = 0)) d
theorem kE_eq {α : Type} {b b' : Bool} {d d' : List UInt8} {q : List (Int × List UInt8)} {k : List (Int × List UInt8) → Bool → List UInt8 → α} (h1 : (ents b d).2.2 = q) (h2 : (ents b d).1 = b') (h3 : (ents b d).2.1 = d') : kE b d k = k q b' d' := by subst h1 h2 h3; rfl
theorem kX_eq {α : Type} {b b' : Bool} {d d' : List UInt8} {q : ResV} {k : ResV → Bool → List UInt8 → α} (h1 : (resL b d).1 = q) (h2 : (resL b d).2.1 = b') (h3 : (resL b d).2.2 = d') : kX b d k = k q b' d' := by subst h1 h2 h3; rfl
theorem kC_eq {α : Type} {s : ByteArray} {b b' : Bool} {d : List UInt8} {q : CmdV} {k : CmdV → Bool → List UInt8 → α} (h1 : (decC s.data.toList).getD cmdZ = q) (h2 : (b || decide (¬ (if (decC s.data.toList).isSome = true then (0 : Int) else 131) = 0)) = b') : kC s b d k = k q b' d := by subst h1 h2; rfl
/-- what a message's bytes are read as, whatever comes of it -/
def decAllM (d : List UInt8) : MsgV × Bool × List UInt8 :=
  kN false d fun kd b d => kN b d fun fr b d => kN b d fun to b d => kN b d fun rg b d => kN b d fun te b d => kN b d fun ix b d => kN b d fun lt b d => kN b d fun co b d => kF b d fun ok b d => kE b d fun es b d => kT b d fun da b d => kS b d fun nw nl b d =>
  if kd = 6 then kT b d fun s b d => kC s b d fun c b d => (⟨kd, fr, to, rg, te, ix, lt, co, ok, es, da.data.toList, nw, nl, c, resZ⟩, b, d)
  else if kd = 7 then kX b d fun r b d => (⟨kd, fr, to, rg, te, ix, lt, co, ok, es, da.data.toList, nw, nl, cmdZ, r⟩, b, d)
  else (⟨kd, fr, to, rg, te, ix, lt, co, ok, es, da.data.toList, nw, nl, cmdZ, resZ⟩, b, d)
/-- the message of bytes -/
def decMsg (b : List UInt8) : Option MsgV := if (wholeB b).2 = 0 ∧ (decAllM (wholeB b).1).2.1 = false ∧ (decAllM (wholeB b).1).2.2 = [] ∧ msgB (decAllM (wholeB b).1).1 = true then some (decAllM (wholeB b).1).1 else none
def msgZ : MsgV := ⟨0, 0, 0, 0, 0, 0, 0, 0, false, [], [], 0, 0, cmdZ, resZ⟩
theorem decM_no1 {b : List UInt8} (h : ¬ (wholeB b).2 = 0) : decMsg b = none := if_neg (fun h2 => h h2.1)
theorem decM_no {b x d' : List UInt8} {m : MsgV} {bd : Bool} (hw : (wholeB b).1 = x) (h : decAllM x = (m, bd, d')) (h2 : ¬ (bd = false ∧ d' = [] ∧ msgB m = true)) : decMsg b = none := by unfold decMsg; rw [hw, h]; exact if_neg (fun h3 => h2 h3.2)
theorem decM_yes {b x d' : List UInt8} {m : MsgV} {bd : Bool} (he : (wholeB b).2 = 0) (hw : (wholeB b).1 = x) (h : decAllM x = (m, bd, d')) (h1 : bd = false) (h2 : d' = []) (h3 : msgB m = true) : decMsg b = some m := by unfold decMsg; rw [hw, h]; exact if_pos ⟨he, h1, h2, h3⟩
theorem szZ : SzOk cmdZ := ⟨by decide, by decide, by decide, by decide, fun _ h => by cases h⟩
theorem szRZ : SzR resZ := ⟨fun _ h => (by cases h), by decide, fun _ h => by cases h⟩
theorem whole_len (b : List UInt8) : (wholeB b).1.length ≤ b.length := by
  unfold wholeB
  split
  · split
    · dsimp only; omega
    · simp
  · simp

set_option maxHeartbeats 900000 in
set_option maxRecDepth 10000 in
theorem mdecode_spec {w : World}  {D_b : Nat → Prop} {c_b : Nat} {a_b : Option Addr} {b : List UInt8} (F_b : Sl V.Cod.byte w D_b a_b c_b b) (hD_b : ∀ k, D_b k → k < w.heap.size) (hl : b.length ≤ 140737488355328) :
    Meets Tryz.prog 32 [.slice a_b b.length c_b] w fun r w' => ∃ (ra105 : Option Addr) (rc105 : Nat) (ra106 : Option Addr) (rc106 : Nat) (ra107 : Option Addr) (rc107 : Nat) (ra108 : Option Addr) (rc108 : Nat) (ra109 : Option Addr) (rc109 : Nat), r = .tuple #[.agg #[.int .i64 (((decMsg b).getD msgZ).kd), .int .i64 (((decMsg b).getD msgZ).fr), .int .i64 (((decMsg b).getD msgZ).to), .int .i64 (((decMsg b).getD msgZ).rg), .int .i64 (((decMsg b).getD msgZ).te), .int .i64 (((decMsg b).getD msgZ).ix), .int .i64 (((decMsg b).getD msgZ).lt), .int .i64 (((decMsg b).getD msgZ).co), .bool (((decMsg b).getD msgZ).ok), .slice ra105 (((decMsg b).getD msgZ).es).length rc105, .slice ra106 (((decMsg b).getD msgZ).da).length rc106, .int .i64 (((decMsg b).getD msgZ).nw), .int .i64 (((decMsg b).getD msgZ).nl), .int .i64 (((decMsg b).getD msgZ).c.kd), .int .i64 (((decMsg b).getD msgZ).c.id), .int .i64 (((decMsg b).getD msgZ).c.le), .int .i64 (((decMsg b).getD msgZ).c.nd), .int .i64 (((decMsg b).getD msgZ).c.ti), .int .i64 (((decMsg b).getD msgZ).c.te), .string (((decMsg b).getD msgZ).c.an), .int .i64 (((decMsg b).getD msgZ).c.sw), .int .i64 (((decMsg b).getD msgZ).c.sl), .int .i64 (((decMsg b).getD msgZ).c.sq), .string (((decMsg b).getD msgZ).c.fr), .string (((decMsg b).getD msgZ).c.to), .string (((decMsg b).getD msgZ).c.va), .bool (((decMsg b).getD msgZ).c.go), .int .i64 (((decMsg b).getD msgZ).c.aw), .int .i64 (((decMsg b).getD msgZ).c.al), .int .i64 (((decMsg b).getD msgZ).c.lw), .int .i64 (((decMsg b).getD msgZ).c.ll), .bool (((decMsg b).getD msgZ).c.cm), .bool (((decMsg b).getD msgZ).c.st), .slice ra107 (((decMsg b).getD msgZ).c.ws).length rc107, .int .i64 (((decMsg b).getD msgZ).c.pr), .int .i64 (((decMsg b).getD msgZ).r.er), .int .i64 (((decMsg b).getD msgZ).r.aw), .int .i64 (((decMsg b).getD msgZ).r.al), .slice ra108 (((decMsg b).getD msgZ).r.ps).length rc108, .bool (((decMsg b).getD msgZ).r.fo), .int .i64 (((decMsg b).getD msgZ).r.ti), .int .i64 (((decMsg b).getD msgZ).r.te), .string (((decMsg b).getD msgZ).r.an), .int .i64 (((decMsg b).getD msgZ).r.sw), .int .i64 (((decMsg b).getD msgZ).r.sl), .int .i64 (((decMsg b).getD msgZ).r.rc.id), .int .i64 (((decMsg b).getD msgZ).r.rc.ep), .int .i64 (((decMsg b).getD msgZ).r.rc.st), .int .i64 (((decMsg b).getD msgZ).r.rc.aw), .int .i64 (((decMsg b).getD msgZ).r.rc.al), .int .i64 (((decMsg b).getD msgZ).r.rc.bw), .int .i64 (((decMsg b).getD msgZ).r.rc.bl), .slice ra109 (((decMsg b).getD msgZ).r.rc.ws).length rc109], .int .i64 (if (decMsg b).isSome = true then (0 : Int) else 181)] ∧ V.Row V.Cod.ent 74 w' V.None' w.heap.size w'.heap.size ra105 rc105 (((decMsg b).getD msgZ).es) ∧ Sl V.Cod.byte w' (V.In w.heap.size w'.heap.size) ra106 rc106 (((decMsg b).getD msgZ).da) ∧ V.Row V.Cod.write 78 w' V.None' w.heap.size w'.heap.size ra107 rc107 (((decMsg b).getD msgZ).c.ws) ∧ V.Row (V.Cod.pair V.Cod.str V.Cod.str) 76 w' V.None' w.heap.size w'.heap.size ra108 rc108 (((decMsg b).getD msgZ).r.ps) ∧ Sl V.Cod.write w' (V.In w.heap.size w'.heap.size) ra109 rc109 (((decMsg b).getD msgZ).r.rc.ws) ∧ Gr w w' := by
 have HG := V.Fr.refl [] w
 refine V.enter (n := 96) Tryz.func32 rfl rfl (by decide) rfl ?_
 refine V.sr ?_
 refine V.alloc zero50 rfl rfl rfl ?_
 rintro k1 w3 s5 s6 G4 Fk2
 have z7 := V.Fr.size G4
 try simp only [V.cellsL, V.spliceL] at Fk2
 refine V.ru 1 ?_
 refine V.nt ?_
 refine V.sr ?_
 refine V.ru 1 ?_
 replace F_b := F_b.gr G4
 refine V.call (whole_spec F_b (fun k hk => by have := hD_b k hk; omega)) rfl rfl rfl ?_
 rintro _ w11 ⟨a8, c9, rfl, F10, G12⟩
 have z13 := V.Fr.size G12
 refine V.ru 5 ?_
 refine V.nt ?_
 refine V.seq ?_
 refine V.sr ?_
 refine V.ru 2 ?_
 refine V.nt ?_
 refine V.condT rfl (fun h2 => ?_) (fun h2 => ?_)
 ·
  try replace h2 := V.dec h2
  try simp only [V.mk] at h2
  refine V.sr ?_
  refine V.mkStruct T_ok zero50 rfl rfl rfl rfl rfl ?_
  replace Fk2 := Fk2.gr G12
  refine V.storeO Fk2 rfl rfl rfl rfl sz50 rfl rfl rfl rfl ?_
  rintro w14 G15 z17 Fs16
  clear Fk2
  have z18 := V.Fr.size G15
  have Fk2 := Fs16; clear Fs16
  simp only [V.spliceL, V.cellsL] at Fk2
  refine V.ru 1 ?_
  refine V.nt ?_
  refine V.ret ?_
  refine V.tR ?_
  refine V.done2 rfl (V.resV_cell T_ok Fk2 rfl rfl) (V.resV_tmp rfl) ?_
  rw [show decMsg b = none from decM_no1 h2]
  replace HG := HG.grow (G4.trans G12)
  replace HG := HG.n1 G15
  exact ⟨none, 0, none, 0, none, 0, none, 0, none, 0, (by first | rfl | simp only [List.length_set]), V.Row.nil, (Sl.nil _ _ _ _ _ (Nat.zero_le _)), V.Row.nil, V.Row.nil, (Sl.nil _ _ _ _ _ (Nat.zero_le _)), HG⟩
 ·
  try replace h2 := V.dec h2
  try simp only [V.mk] at h2
  refine V.skip ?_
  refine V.tN ?_
  refine V.seq ?_
  have hwl := whole_len b
  generalize hw1 : (wholeB b).1 = x0 at F10 hwl ⊢
  refine V.region ?_
  refine V.ru 1 ?_
  refine V.call (p_open F10.sl (fun k hk => by have := hk.2; omega) V.lenA) rfl rfl rfl ?_
  rintro _ w22 ⟨k19, rfl, ⟨h20l, h20u⟩, F21, G23⟩
  have z24 := V.Fr.size G23
  refine V.mkStruct T_ok zero105 rfl rfl rfl rfl rfl ?_
  refine V.box rfl rfl rfl rfl ?_
  rintro k25 w27 s29 s30 G28 Fk26
  have z31 := V.Fr.size G28
  try simp only [V.cellsL, V.spliceL] at Fk26
  refine V.ru 1 ?_
  refine V.nt ?_
  refine V.sr ?_
  refine V.alloc zero50 rfl rfl rfl ?_
  rintro k32 w34 s36 s37 G35 Fk33
  have z38 := V.Fr.size G35
  try simp only [V.cellsL, V.spliceL] at Fk33
  refine V.nt ?_
  refine V.sr ?_
  refine V.alloc zero3 rfl rfl rfl ?_
  rintro k39 w41 s43 s44 G42 Fk40
  have z45 := V.Fr.size G42
  try simp only [V.cellsL, V.spliceL] at Fk40
  refine V.nt ?_
  refine V.seq ?_
  refine V.sr ?_
  refine V.ru 7 ?_
  refine V.mkSlice T_ok zero106 rfl rfl sz106 rfl rfl rfl rfl rfl rfl ?_
  rintro k46 w49 s51 s52 G50 Fk47
  have z53 := V.Fr.size G50
  refine V.ru 2 ?_
  refine V.nt ?_
  refine V.block ?_
  refine V.loopR 9 ?_
  refine V.rnd ?_
  refine V.sr ?_
  refine V.ru 1 ?_
  refine V.nt ?_
  refine V.seq ?_
  refine V.condY rfl rfl ?_
  refine V.skip ?_
  refine V.tN ?_
  refine V.seq ?_
  refine V.block ?_
  refine V.sr ?_
  refine V.step rfl rfl (V.elem_run T_ok rfl rfl sz106 rfl rfl (by decide) (by decide) _) ?_
  refine V.loadO T_ok Fk47 rfl rfl rfl rfl rfl ?_
  refine V.ru 1 ?_
  refine V.nt ?_
  refine V.region ?_
  refine V.ru 2 ?_
  replace F21 := F21.gr (G28.trans (G35.trans (G42.trans G50)))
  replace Fk26 := Fk26.gr (G35.trans (G42.trans G50))
  replace Fk40 := Fk40.gr G50
  refine V.call (mtk_number (Ft := Fk26) (FX := F21) (Fx := Fk40) (off := 0) (hle := rfl) (n1 := by omega) (n2 := by omega) (n3 := by omega) (n4 := (by intro h; first | exact n5 h.1 | (have := h.1; have := h.2; omega))) (n5 := (by intro h; first | exact n5 h.1 | (have := h.1; have := h.2; omega)))) rfl rfl rfl ?_
  rintro _ w57 ⟨rfl, F54, F55, F56, G58⟩
  have z59 := V.Fr.size G58
  simp only [V.spliceL, V.cellsL] at F56
  refine V.nil ?_
  refine V.bN ?_
  refine V.tN ?_
  refine V.region ?_
  refine V.addN rfl rfl rfl rfl rfl V.lenA V.lenA ?_
  refine V.ru 1 ?_
  refine V.nt ?_
  refine V.rnd ?_
  refine V.seq ?_
  have z60 : w49.heap.size ≤ w57.heap.size := by omega
  have hhF10_0 : w11.heap.size ≤ w57.heap.size := by omega
  try clear z59
  generalize hd1 : (rdN x0 1099511627776).2 = d1 at F54
  generalize hb1 : (false || decide (¬ (rdN x0 1099511627776).1.2 = 0)) = b1 at F55
  generalize hq1_0 : (rdN x0 1099511627776).1.1 = q1_0 at F56
  refine V.region ?_
  refine V.ru 1 ?_
  refine V.nt ?_
  refine V.seq ?_
  refine V.condY rfl rfl ?_
  refine V.skip ?_
  refine V.tN ?_
  refine V.seq ?_
  refine V.block ?_
  refine V.sr ?_
  refine V.step rfl rfl (V.elem_run T_ok rfl rfl sz106 rfl rfl (by decide) (by decide) _) ?_
  replace Fk47 := Fk47.mS G58
  refine V.loadO T_ok Fk47 rfl rfl rfl rfl rfl ?_
  refine V.ru 1 ?_
  refine V.nt ?_
  refine V.region ?_
  refine V.ru 2 ?_
  replace Fk33 := Fk33.gr (G42.trans G50)
  replace Fk33 := Fk33.mS G58
  refine V.call (mtk_number (Ft := F55) (FX := F54) (Fx := Fk33) (off := 1) (hle := rfl) (n1 := by omega) (n2 := by omega) (n3 := by omega) (n4 := (by intro h; first | exact n5 h.1 | (have := h.1; have := h.2; omega))) (n5 := (by intro h; first | exact n5 h.1 | (have := h.1; have := h.2; omega)))) rfl rfl rfl ?_
  rintro _ w64 ⟨rfl, F61, F62, F63, G65⟩
  have z66 := V.Fr.size G65
  simp only [V.spliceL, V.cellsL] at F63
  refine V.nil ?_
  refine V.bN ?_
  refine V.tN ?_
  refine V.region ?_
  refine V.addN rfl rfl rfl rfl rfl V.lenA V.lenA ?_
  refine V.ru 1 ?_
  refine V.nt ?_
  refine V.rnd ?_
  refine V.seq ?_
  have z67 : w57.heap.size ≤ w64.heap.size := by omega
  have hhF10_1 : w11.heap.size ≤ w64.heap.size := by omega
  try clear z66
  generalize hd2 : (rdN d1 1099511627776).2 = d2 at F61
  generalize hb2 : (b1 || decide (¬ (rdN d1 1099511627776).1.2 = 0)) = b2 at F62
  generalize hq2_0 : (rdN d1 1099511627776).1.1 = q2_0 at F63
  refine V.region ?_
  refine V.ru 1 ?_
  refine V.nt ?_
  refine V.seq ?_
  refine V.condY rfl rfl ?_
  refine V.skip ?_
  refine V.tN ?_
  refine V.seq ?_
  refine V.block ?_
  refine V.sr ?_
  refine V.step rfl rfl (V.elem_run T_ok rfl rfl sz106 rfl rfl (by decide) (by decide) _) ?_
  replace Fk47 := Fk47.mS G65
  refine V.loadO T_ok Fk47 rfl rfl rfl rfl rfl ?_
  refine V.ru 1 ?_
  refine V.nt ?_
  refine V.region ?_
  refine V.ru 2 ?_
  refine V.call (mtk_number (Ft := F62) (FX := F61) (Fx := F63) (off := 2) (hle := rfl) (n1 := by omega) (n2 := by omega) (n3 := by omega) (n4 := (by intro h; first | exact n5 h.1 | (have := h.1; have := h.2; omega))) (n5 := (by intro h; first | exact n5 h.1 | (have := h.1; have := h.2; omega)))) rfl rfl rfl ?_
  rintro _ w71 ⟨rfl, F68, F69, F70, G72⟩
  have z73 := V.Fr.size G72
  simp only [V.spliceL, V.cellsL] at F70
  refine V.nil ?_
  refine V.bN ?_
  refine V.tN ?_
  refine V.region ?_
  refine V.addN rfl rfl rfl rfl rfl V.lenA V.lenA ?_
  refine V.ru 1 ?_
  refine V.nt ?_
  refine V.rnd ?_
  refine V.seq ?_
  have z74 : w64.heap.size ≤ w71.heap.size := by omega
  have hhF10_2 : w11.heap.size ≤ w71.heap.size := by omega
  try clear z73
  generalize hd3 : (rdN d2 1099511627776).2 = d3 at F68
  generalize hb3 : (b2 || decide (¬ (rdN d2 1099511627776).1.2 = 0)) = b3 at F69
  generalize hq3_0 : (rdN d2 1099511627776).1.1 = q3_0 at F70
  refine V.region ?_
  refine V.ru 1 ?_
  refine V.nt ?_
  refine V.seq ?_
  refine V.condY rfl rfl ?_
  refine V.skip ?_
  refine V.tN ?_
  refine V.seq ?_
  refine V.block ?_
  refine V.sr ?_
  refine V.step rfl rfl (V.elem_run T_ok rfl rfl sz106 rfl rfl (by decide) (by decide) _) ?_
  replace Fk47 := Fk47.mS G72
  refine V.loadO T_ok Fk47 rfl rfl rfl rfl rfl ?_
  refine V.ru 1 ?_
  refine V.nt ?_
  refine V.region ?_
  refine V.ru 2 ?_
  refine V.call (mtk_number (Ft := F69) (FX := F68) (Fx := F70) (off := 3) (hle := rfl) (n1 := by omega) (n2 := by omega) (n3 := by omega) (n4 := (by intro h; first | exact n5 h.1 | (have := h.1; have := h.2; omega))) (n5 := (by intro h; first | exact n5 h.1 | (have := h.1; have := h.2; omega)))) rfl rfl rfl ?_
  rintro _ w78 ⟨rfl, F75, F76, F77, G79⟩
  have z80 := V.Fr.size G79
  simp only [V.spliceL, V.cellsL] at F77
  refine V.nil ?_
  refine V.bN ?_
  refine V.tN ?_
  refine V.region ?_
  refine V.addN rfl rfl rfl rfl rfl V.lenA V.lenA ?_
  refine V.ru 1 ?_
  refine V.nt ?_
  refine V.rnd ?_
  refine V.seq ?_
  have z81 : w71.heap.size ≤ w78.heap.size := by omega
  have hhF10_3 : w11.heap.size ≤ w78.heap.size := by omega
  try clear z80
  generalize hd4 : (rdN d3 1099511627776).2 = d4 at F75
  generalize hb4 : (b3 || decide (¬ (rdN d3 1099511627776).1.2 = 0)) = b4 at F76
  generalize hq4_0 : (rdN d3 1099511627776).1.1 = q4_0 at F77
  refine V.region ?_
  refine V.ru 1 ?_
  refine V.nt ?_
  refine V.seq ?_
  refine V.condY rfl rfl ?_
  refine V.skip ?_
  refine V.tN ?_
  refine V.seq ?_
  refine V.block ?_
  refine V.sr ?_
  refine V.step rfl rfl (V.elem_run T_ok rfl rfl sz106 rfl rfl (by decide) (by decide) _) ?_
  replace Fk47 := Fk47.mS G79
  refine V.loadO T_ok Fk47 rfl rfl rfl rfl rfl ?_
  refine V.ru 1 ?_
  refine V.nt ?_
  refine V.region ?_
  refine V.ru 2 ?_
  refine V.call (mtk_number (Ft := F76) (FX := F75) (Fx := F77) (off := 4) (hle := rfl) (n1 := by omega) (n2 := by omega) (n3 := by omega) (n4 := (by intro h; first | exact n5 h.1 | (have := h.1; have := h.2; omega))) (n5 := (by intro h; first | exact n5 h.1 | (have := h.1; have := h.2; omega)))) rfl rfl rfl ?_
  rintro _ w85 ⟨rfl, F82, F83, F84, G86⟩
  have z87 := V.Fr.size G86
  simp only [V.spliceL, V.cellsL] at F84
  refine V.nil ?_
  refine V.bN ?_
  refine V.tN ?_
  refine V.region ?_
  refine V.addN rfl rfl rfl rfl rfl V.lenA V.lenA ?_
  refine V.ru 1 ?_
  refine V.nt ?_
  refine V.rnd ?_
  refine V.seq ?_
  have z88 : w78.heap.size ≤ w85.heap.size := by omega
  have hhF10_4 : w11.heap.size ≤ w85.heap.size := by omega
  try clear z87
  generalize hd5 : (rdN d4 1099511627776).2 = d5 at F82
  generalize hb5 : (b4 || decide (¬ (rdN d4 1099511627776).1.2 = 0)) = b5 at F83
  generalize hq5_0 : (rdN d4 1099511627776).1.1 = q5_0 at F84
  refine V.region ?_
  refine V.ru 1 ?_
  refine V.nt ?_
  refine V.seq ?_
  refine V.condY rfl rfl ?_
  refine V.skip ?_
  refine V.tN ?_
  refine V.seq ?_
  refine V.block ?_
  refine V.sr ?_
  refine V.step rfl rfl (V.elem_run T_ok rfl rfl sz106 rfl rfl (by decide) (by decide) _) ?_
  replace Fk47 := Fk47.mS G86
  refine V.loadO T_ok Fk47 rfl rfl rfl rfl rfl ?_
  refine V.ru 1 ?_
  refine V.nt ?_
  refine V.region ?_
  refine V.ru 2 ?_
  refine V.call (mtk_number (Ft := F83) (FX := F82) (Fx := F84) (off := 5) (hle := rfl) (n1 := by omega) (n2 := by omega) (n3 := by omega) (n4 := (by intro h; first | exact n5 h.1 | (have := h.1; have := h.2; omega))) (n5 := (by intro h; first | exact n5 h.1 | (have := h.1; have := h.2; omega)))) rfl rfl rfl ?_
  rintro _ w92 ⟨rfl, F89, F90, F91, G93⟩
  have z94 := V.Fr.size G93
  simp only [V.spliceL, V.cellsL] at F91
  refine V.nil ?_
  refine V.bN ?_
  refine V.tN ?_
  refine V.region ?_
  refine V.addN rfl rfl rfl rfl rfl V.lenA V.lenA ?_
  refine V.ru 1 ?_
  refine V.nt ?_
  refine V.rnd ?_
  refine V.seq ?_
  have z95 : w85.heap.size ≤ w92.heap.size := by omega
  have hhF10_5 : w11.heap.size ≤ w92.heap.size := by omega
  try clear z94
  generalize hd6 : (rdN d5 1099511627776).2 = d6 at F89
  generalize hb6 : (b5 || decide (¬ (rdN d5 1099511627776).1.2 = 0)) = b6 at F90
  generalize hq6_0 : (rdN d5 1099511627776).1.1 = q6_0 at F91
  refine V.region ?_
  refine V.ru 1 ?_
  refine V.nt ?_
  refine V.seq ?_
  refine V.condY rfl rfl ?_
  refine V.skip ?_
  refine V.tN ?_
  refine V.seq ?_
  refine V.block ?_
  refine V.sr ?_
  refine V.step rfl rfl (V.elem_run T_ok rfl rfl sz106 rfl rfl (by decide) (by decide) _) ?_
  replace Fk47 := Fk47.mS G93
  refine V.loadO T_ok Fk47 rfl rfl rfl rfl rfl ?_
  refine V.ru 1 ?_
  refine V.nt ?_
  refine V.region ?_
  refine V.ru 2 ?_
  refine V.call (mtk_number (Ft := F90) (FX := F89) (Fx := F91) (off := 6) (hle := rfl) (n1 := by omega) (n2 := by omega) (n3 := by omega) (n4 := (by intro h; first | exact n5 h.1 | (have := h.1; have := h.2; omega))) (n5 := (by intro h; first | exact n5 h.1 | (have := h.1; have := h.2; omega)))) rfl rfl rfl ?_
  rintro _ w99 ⟨rfl, F96, F97, F98, G100⟩
  have z101 := V.Fr.size G100
  simp only [V.spliceL, V.cellsL] at F98
  refine V.nil ?_
  refine V.bN ?_
  refine V.tN ?_
  refine V.region ?_
  refine V.addN rfl rfl rfl rfl rfl V.lenA V.lenA ?_
  refine V.ru 1 ?_
  refine V.nt ?_
  refine V.rnd ?_
  refine V.seq ?_
  have z102 : w92.heap.size ≤ w99.heap.size := by omega
  have hhF10_6 : w11.heap.size ≤ w99.heap.size := by omega
  try clear z101
  generalize hd7 : (rdN d6 1099511627776).2 = d7 at F96
  generalize hb7 : (b6 || decide (¬ (rdN d6 1099511627776).1.2 = 0)) = b7 at F97
  generalize hq7_0 : (rdN d6 1099511627776).1.1 = q7_0 at F98
  refine V.region ?_
  refine V.ru 1 ?_
  refine V.nt ?_
  refine V.seq ?_
  refine V.condY rfl rfl ?_
  refine V.skip ?_
  refine V.tN ?_
  refine V.seq ?_
  refine V.block ?_
  refine V.sr ?_
  refine V.step rfl rfl (V.elem_run T_ok rfl rfl sz106 rfl rfl (by decide) (by decide) _) ?_
  replace Fk47 := Fk47.mS G100
  refine V.loadO T_ok Fk47 rfl rfl rfl rfl rfl ?_
  refine V.ru 1 ?_
  refine V.nt ?_
  refine V.region ?_
  refine V.ru 2 ?_
  refine V.call (mtk_number (Ft := F97) (FX := F96) (Fx := F98) (off := 7) (hle := rfl) (n1 := by omega) (n2 := by omega) (n3 := by omega) (n4 := (by intro h; first | exact n5 h.1 | (have := h.1; have := h.2; omega))) (n5 := (by intro h; first | exact n5 h.1 | (have := h.1; have := h.2; omega)))) rfl rfl rfl ?_
  rintro _ w106 ⟨rfl, F103, F104, F105, G107⟩
  have z108 := V.Fr.size G107
  simp only [V.spliceL, V.cellsL] at F105
  refine V.nil ?_
  refine V.bN ?_
  refine V.tN ?_
  refine V.region ?_
  refine V.addN rfl rfl rfl rfl rfl V.lenA V.lenA ?_
  refine V.ru 1 ?_
  refine V.nt ?_
  refine V.rnd ?_
  refine V.seq ?_
  have z109 : w99.heap.size ≤ w106.heap.size := by omega
  have hhF10_7 : w11.heap.size ≤ w106.heap.size := by omega
  try clear z108
  generalize hd8 : (rdN d7 1099511627776).2 = d8 at F103
  generalize hb8 : (b7 || decide (¬ (rdN d7 1099511627776).1.2 = 0)) = b8 at F104
  generalize hq8_0 : (rdN d7 1099511627776).1.1 = q8_0 at F105
  refine V.region ?_
  refine V.ru 1 ?_
  refine V.nt ?_
  refine V.seq ?_
  refine V.condN rfl rfl ?_
  refine V.exit ?_
  refine V.tX ?_
  refine V.tX ?_
  refine V.bE ?_
  refine V.tN ?_
  refine V.sr ?_
  replace F56 := F56.mS G65
  replace F56 := F56.mS G72
  replace F56 := F56.mS G79
  replace F56 := F56.mS G86
  replace F56 := F56.mS G93
  replace F56 := F56.mS G100
  replace F56 := F56.mS G107
  refine V.loadO T_ok F56 rfl rfl rfl rfl rfl ?_
  refine V.ru 1 ?_
  refine V.storeO F105 rfl rfl rfl rfl sz29 rfl rfl rfl rfl ?_
  rintro w110 G111 z113 Fs112
  clear F105
  have z114 := V.Fr.size G111
  have F105 := Fs112; clear Fs112
  simp only [V.spliceL, V.cellsL] at F105
  refine V.nt ?_
  refine V.sr ?_
  refine V.ru 5 ?_
  replace F104 := F104.ma G111
  refine V.loadO T_ok F104 rfl rfl rfl rfl rfl ?_
  refine V.ru 1 ?_
  replace F103 := F103.ma G111
  refine V.call (mtake_flag (Ft := F104) (FX := F103) (Fx := F105) (off := 8) (hle := rfl) (n1 := by omega) (n2 := by omega) (n3 := by omega) (n4 := (by intro h; first | exact n5 h.1 | (have := h.1; have := h.2; omega))) (n5 := (by intro h; first | exact n5 h.1 | (have := h.1; have := h.2; omega)))) rfl rfl rfl ?_
  rintro _ w118 ⟨rfl, F115, F116, F117, G119⟩
  have z120 := V.Fr.size G119
  simp only [V.spliceL, V.cellsL] at F117
  refine V.nt ?_
  refine V.seq ?_
  have z121 : w110.heap.size ≤ w118.heap.size := by omega
  have hhF10_8 : w11.heap.size ≤ w118.heap.size := by omega
  try clear z120
  generalize hd9 : (rdF d8).2 = d9 at F115
  generalize hb9 : (b8 || decide (¬ (rdF d8).1.2 = 0)) = b9 at F116
  generalize hq9_0 : (rdF d8).1.1 = q9_0 at F117
  refine V.region ?_
  refine V.ru 1 ?_
  refine V.call (mtk_ents (Ft := F116) (FX := F115) (n1 := by omega) (n5 := (by intro h; first | exact n5 h.1 | (have := h.1; have := h.2; omega)))) rfl rfl rfl ?_
  rintro _ w127 ⟨a122, c123, rfl, F124, F125, F126, G128⟩
  have z129 := V.Fr.size G128
  refine V.ru 1 ?_
  replace F117 := F117.mS G128
  refine V.storeO F117 rfl rfl rfl rfl sz30 rfl rfl rfl rfl ?_
  rintro w130 G131 z133 Fs132
  clear F117
  have z134 := V.Fr.size G131
  have F117 := Fs132; clear Fs132
  simp only [V.spliceL, V.cellsL] at F117
  refine V.nt ?_
  refine V.seq ?_
  have z135 : w118.heap.size ≤ w130.heap.size := by omega
  have hhF10_9 : w11.heap.size ≤ w130.heap.size := by omega
  have hhF126_9 : w127.heap.size ≤ w130.heap.size := by omega
  try clear z129
  try clear z133
  try clear z134
  replace F124 := F124.ma G131
  generalize hd10 : (ents b9 d9).2.1 = d10 at F124
  replace F125 := F125.ma G131
  generalize hb10 : (ents b9 d9).1 = b10 at F125
  replace F126 := F126.ma G131
  generalize hq10_0 : (ents b9 d9).2.2 = q10_0 at F126 F117 ⊢
  refine V.region ?_
  refine V.alloc zero9 rfl rfl rfl ?_
  rintro k136 w138 s140 s141 G139 Fk137
  have z142 := V.Fr.size G139
  try simp only [V.cellsL, V.spliceL] at Fk137
  refine V.nt ?_
  refine V.sr ?_
  refine V.ru 1 ?_
  replace F124 := F124.gr G139
  replace F125 := F125.gr G139
  refine V.call (mtk_text (Ft := F125) (FX := F124) (Fx := Fk137) (off := 0) (hle := rfl) (n1 := by omega) (n2 := by omega) (n3 := by omega) (n4 := (by intro h; first | exact n5 h.1 | (have := h.1; have := h.2; omega))) (n5 := (by intro h; first | exact n5 h.1 | (have := h.1; have := h.2; omega)))) rfl rfl rfl ?_
  rintro _ w146 ⟨rfl, F143, F144, F145, G147⟩
  have z148 := V.Fr.size G147
  simp only [V.spliceL, V.cellsL] at F145
  refine V.nt ?_
  refine V.seq ?_
  have z149 : w138.heap.size ≤ w146.heap.size := by omega
  have hhF10_10 : w11.heap.size ≤ w146.heap.size := by omega
  have hhF126_10 : w127.heap.size ≤ w146.heap.size := by omega
  try clear z148
  generalize hd11 : (rdT d10 65536).2 = d11 at F143
  generalize hb11 : (b10 || decide (¬ (rdT d10 65536).1.2 = 0)) = b11 at F144
  generalize hq11_0 : S (rdT d10 65536).1.1 = q11_0 at F145
  have hz11 := szT hq11_0
  have hm11 := szT2 hq11_0
  refine V.region ?_
  refine V.loadO T_ok F145 rfl rfl rfl rfl rfl ?_
  have hsT : q11_0.size ≤ maxLen := by simp only [maxLen]; omega
  refine V.ofStr Tryz.underlying9 Tryz.underlying31 Tryz.underlying5 rfl rfl rfl rfl (by omega) ?_
  rintro a150 c151 w153 G154 s155 F152
  have z156 := V.Fr.size G154
  refine V.ru 1 ?_
  replace F117 := F117.gr G139
  replace F117 := F117.mS G147
  replace F117 := F117.gr G154
  refine V.storeO F117 rfl rfl rfl rfl sz31 rfl rfl rfl rfl ?_
  rintro w157 G158 z160 Fs159
  clear F117
  have z161 := V.Fr.size G158
  have F117 := Fs159; clear Fs159
  simp only [V.spliceL, V.cellsL] at F117
  refine V.nt ?_
  refine V.sr ?_
  refine V.ru 2 ?_
  replace F143 := F143.gr G154
  replace F143 := F143.ma G158
  replace F144 := F144.gr G154
  replace F144 := F144.ma G158
  refine V.call (mtk_stamp (Ft := F144) (FX := F143) (Fx := F117) (off := 11) (hle := rfl) (n1 := by omega) (n2 := by omega) (n3 := by omega) (n4 := (by intro h; first | exact n5 h.1 | (have := h.1; have := h.2; omega))) (n5 := (by intro h; first | exact n5 h.1 | (have := h.1; have := h.2; omega)))) rfl rfl rfl ?_
  rintro _ w165 ⟨rfl, F162, F163, F164, G166⟩
  have z167 := V.Fr.size G166
  simp only [V.spliceL, V.cellsL] at F164
  refine V.nt ?_
  refine V.seq ?_
  refine V.seq ?_
  have z168 : w157.heap.size ≤ w165.heap.size := by omega
  have hhF10_11 : w11.heap.size ≤ w165.heap.size := by omega
  have hhF126_11 : w127.heap.size ≤ w165.heap.size := by omega
  have hhF152_11 : w153.heap.size ≤ w165.heap.size := by omega
  try clear z167
  generalize hd12 : (rdS d11).2 = d12 at F162
  generalize hb12 : (b11 || decide (¬ (rdS d11).1.2 = 0)) = b12 at F163
  generalize hq12_0 : (rdS d11).1.1.1 = q12_0 at F164
  generalize hq12_1 : (rdS d11).1.1.2 = q12_1 at F164
  refine V.region ?_
  refine V.ru 1 ?_
  refine V.loadO T_ok F164 rfl rfl rfl rfl rfl ?_
  refine V.nt ?_
  refine V.block ?_
  refine V.sr ?_
  refine V.ru 2 ?_
  refine V.nt ?_
  refine V.condT rfl (fun h20 => ?_) (fun h20 => ?_)
  ·
   try replace h20 := V.dec h20
   try simp only [V.mk] at h20
   refine V.sr ?_
   refine V.ru 1 ?_
   replace F145 := F145.gr G154
   replace F145 := F145.ma G158
   replace F145 := F145.mS G166
   refine V.call (mtk_text (Ft := F163) (FX := F162) (Fx := F145) (off := 0) (hle := rfl) (n1 := by omega) (n2 := by omega) (n3 := by omega) (n4 := (by intro h; first | exact n5 h.1 | (have := h.1; have := h.2; omega))) (n5 := (by intro h; first | exact n5 h.1 | (have := h.1; have := h.2; omega)))) rfl rfl rfl ?_
   rintro _ w172 ⟨rfl, F169, F170, F171, G173⟩
   have z174 := V.Fr.size G173
   simp only [V.spliceL, V.cellsL] at F171
   refine V.nt ?_
   have z175 : w165.heap.size ≤ w172.heap.size := by omega
   have hhF10_12 : w11.heap.size ≤ w172.heap.size := by omega
   have hhF126_12 : w127.heap.size ≤ w172.heap.size := by omega
   have hhF152_12 : w153.heap.size ≤ w172.heap.size := by omega
   try clear z174
   generalize hd13 : (rdT d12 65536).2 = d13 at F169
   generalize hb13 : (b12 || decide (¬ (rdT d12 65536).1.2 = 0)) = b13 at F170
   generalize hq13_0 : S (rdT d12 65536).1.1 = q13_0 at F171
   have hz13 := szT hq13_0
   have hm13 := szT2 hq13_0
   refine V.region ?_
   refine V.ru 3 ?_
   replace F164 := F164.mS G173
   refine V.call (mtake_cmd (Ft := F170) (FX := F169) (Fx := F164) (off := 13) (hle := rfl) (n1 := by omega) (n2 := by omega) (n3 := by omega) (n4 := (by intro h; first | exact n5 h.1 | (have := h.1; have := h.2; omega))) (n5 := (by intro h; first | exact n5 h.1 | (have := h.1; have := h.2; omega))) (FDc := F171) (hs := by omega)) rfl rfl rfl ?_
   rintro _ w181 ⟨a176, c177, rfl, F178, F179, F180, G182⟩
   have z183 := V.Fr.size G182
   simp only [V.spliceL, V.cellsL] at F179
   refine V.nil ?_
   refine V.bN ?_
   refine V.tN ?_
   refine V.seq ?_
   refine V.seq ?_
   have z184 : w172.heap.size ≤ w181.heap.size := by omega
   have hhF10_13 : w11.heap.size ≤ w181.heap.size := by omega
   have hhF126_13 : w127.heap.size ≤ w181.heap.size := by omega
   have hhF152_13 : w153.heap.size ≤ w181.heap.size := by omega
   try clear z183
   generalize hb14 : (b13 || decide (¬ (if (decC q13_0.data.toList).isSome = true then (0 : Int) else 131) = 0)) = b14 at F178
   have hk14 : SzOk ((decC q13_0.data.toList).getD cmdZ) := sz_getD _
   generalize hq14_0 : (decC q13_0.data.toList).getD cmdZ = q14_0 at F179 F180 hk14
   have hR : decAllM x0 = ((⟨q1_0, q2_0, q3_0, q4_0, q5_0, q6_0, q7_0, q8_0, q9_0, q10_0, q11_0.data.toList, q12_0, q12_1, q14_0, resZ⟩ : MsgV), b14, d13) := by
    unfold decAllM; rw [kN_eq hq1_0 hb1 hd1, kN_eq hq2_0 hb2 hd2, kN_eq hq3_0 hb3 hd3, kN_eq hq4_0 hb4 hd4, kN_eq hq5_0 hb5 hd5, kN_eq hq6_0 hb6 hd6, kN_eq hq7_0 hb7 hd7, kN_eq hq8_0 hb8 hd8, kF_eq hq9_0 hb9 hd9, kE_eq hq10_0 hb10 hd10, kT_eq hq11_0 hb11 hd11, kS_eq hq12_0 hq12_1 hb12 hd12, if_pos h20, kT_eq hq13_0 hb13 hd13, kC_eq hq14_0 hb14]
   have hsz : SzM (⟨q1_0, q2_0, q3_0, q4_0, q5_0, q6_0, q7_0, q8_0, q9_0, q10_0, q11_0.data.toList, q12_0, q12_1, q14_0, resZ⟩ : MsgV) := ⟨hk14, szRZ⟩
   have hsz : SzM (⟨q1_0, q2_0, q3_0, q4_0, q5_0, q6_0, q7_0, q8_0, q9_0, q10_0, q11_0.data.toList, q12_0, q12_1, q14_0, (⟨0, 0, 0, [], false, 0, 0, ByteArray.empty, 0, 0, (⟨0, 0, 0, 0, 0, 0, 0, []⟩ : RecV)⟩ : ResV)⟩ : MsgV) := hsz
   refine V.region ?_
   refine V.ru 3 ?_
   refine V.loadO T_ok F178 rfl rfl rfl rfl rfl ?_
   refine V.ru 1 ?_
   refine V.split (j := 4) (t := 81) rfl rfl (fun g25_4 => ?_) (fun g25_4 => ?_)
   ·
    try replace g25_4 := V.dec g25_4
    try simp only [V.mk] at g25_4
    refine V.ru 12 ?_
    refine V.nt ?_
    refine V.condY rfl rfl ?_
    refine V.sr ?_
    refine V.mkStruct T_ok zero50 rfl rfl rfl rfl rfl ?_
    replace Fk2 := Fk2.gr (G12.trans (G23.trans (G28.trans (G35.trans (G42.trans G50)))))
    replace Fk2 := Fk2.mS G58
    replace Fk2 := Fk2.mS G65
    replace Fk2 := Fk2.mS G72
    replace Fk2 := Fk2.mS G79
    replace Fk2 := Fk2.mS G86
    replace Fk2 := Fk2.mS G93
    replace Fk2 := Fk2.mS G100
    replace Fk2 := Fk2.mS G107
    replace Fk2 := Fk2.ma G111
    replace Fk2 := Fk2.mS G119
    replace Fk2 := Fk2.mS G128
    replace Fk2 := Fk2.ma G131
    replace Fk2 := Fk2.gr G139
    replace Fk2 := Fk2.mS G147
    replace Fk2 := Fk2.gr G154
    replace Fk2 := Fk2.ma G158
    replace Fk2 := Fk2.mS G166
    replace Fk2 := Fk2.mS G173
    replace Fk2 := Fk2.mS G182
    refine V.storeO Fk2 rfl rfl rfl rfl sz50 rfl rfl rfl rfl ?_
    rintro w185 G186 z188 Fs187
    clear Fk2
    have z189 := V.Fr.size G186
    have Fk2 := Fs187; clear Fs187
    simp only [V.spliceL, V.cellsL] at Fk2
    refine V.ru 1 ?_
    refine V.nt ?_
    refine V.ret ?_
    refine V.tR ?_
    refine V.done2 rfl (V.resV_cell T_ok Fk2 rfl rfl) (V.resV_tmp rfl) ?_
    rw [show decMsg b = none from decM_no hw1 hR (by rintro ⟨y1, y2, y3⟩; first | (rw [y1] at g25_4; cases g25_4; done) | exact g25_12 (if_pos y2) | exact absurd y3 (by rw [show msgB (⟨q1_0, q2_0, q3_0, q4_0, q5_0, q6_0, q7_0, q8_0, q9_0, q10_0, q11_0.data.toList, q12_0, q12_1, q14_0, resZ⟩ : MsgV) = false from h25]; decide))]
    replace HG := HG.grow (G4.trans (G12.trans (G23.trans (G28.trans (G35.trans (G42.trans G50))))))
    replace HG := HG.nS G58
    replace HG := HG.nS G65
    replace HG := HG.nS G72
    replace HG := HG.nS G79
    replace HG := HG.nS G86
    replace HG := HG.nS G93
    replace HG := HG.nS G100
    replace HG := HG.nS G107
    replace HG := HG.n1 G111
    replace HG := HG.nS G119
    replace HG := HG.nS G128
    replace HG := HG.n1 G131
    replace HG := HG.grow G139
    replace HG := HG.nS G147
    replace HG := HG.grow G154
    replace HG := HG.n1 G158
    replace HG := HG.nS G166
    replace HG := HG.nS G173
    replace HG := HG.nS G182
    replace HG := HG.n1 G186
    exact ⟨none, 0, none, 0, none, 0, none, 0, none, 0, (by first | rfl | simp only [List.length_set]), V.Row.nil, (Sl.nil _ _ _ _ _ (Nat.zero_le _)), V.Row.nil, V.Row.nil, (Sl.nil _ _ _ _ _ (Nat.zero_le _)), HG⟩
   ·
    try replace g25_4 := V.dec g25_4
    try simp only [V.mk] at g25_4
    refine V.ru 3 ?_
    refine V.yes rfl rfl rfl ?_
    refine V.loadO T_ok F178 rfl rfl rfl rfl rfl ?_
    refine V.yes rfl rfl rfl ?_
    replace F169 := F169.mS G182
    refine V.call (rd_end F169) rfl rfl rfl ?_
    rintro _ w181_ ⟨rfl, rfl⟩
    refine V.ru 3 ?_
    refine V.split (j := 12) (t := 89) rfl rfl (fun g25_12 => ?_) (fun g25_12 => ?_)
    ·
     try replace g25_12 := V.dec g25_12
     try simp only [V.mk] at g25_12
     refine V.ru 4 ?_
     refine V.nt ?_
     refine V.condY rfl rfl ?_
     refine V.sr ?_
     refine V.mkStruct T_ok zero50 rfl rfl rfl rfl rfl ?_
     replace Fk2 := Fk2.gr (G12.trans (G23.trans (G28.trans (G35.trans (G42.trans G50)))))
     replace Fk2 := Fk2.mS G58
     replace Fk2 := Fk2.mS G65
     replace Fk2 := Fk2.mS G72
     replace Fk2 := Fk2.mS G79
     replace Fk2 := Fk2.mS G86
     replace Fk2 := Fk2.mS G93
     replace Fk2 := Fk2.mS G100
     replace Fk2 := Fk2.mS G107
     replace Fk2 := Fk2.ma G111
     replace Fk2 := Fk2.mS G119
     replace Fk2 := Fk2.mS G128
     replace Fk2 := Fk2.ma G131
     replace Fk2 := Fk2.gr G139
     replace Fk2 := Fk2.mS G147
     replace Fk2 := Fk2.gr G154
     replace Fk2 := Fk2.ma G158
     replace Fk2 := Fk2.mS G166
     replace Fk2 := Fk2.mS G173
     replace Fk2 := Fk2.mS G182
     refine V.storeO Fk2 rfl rfl rfl rfl sz50 rfl rfl rfl rfl ?_
     rintro w191 G192 z194 Fs193
     clear Fk2
     have z195 := V.Fr.size G192
     have Fk2 := Fs193; clear Fs193
     simp only [V.spliceL, V.cellsL] at Fk2
     refine V.ru 1 ?_
     refine V.nt ?_
     refine V.ret ?_
     refine V.tR ?_
     refine V.done2 rfl (V.resV_cell T_ok Fk2 rfl rfl) (V.resV_tmp rfl) ?_
     rw [show decMsg b = none from decM_no hw1 hR (by rintro ⟨y1, y2, y3⟩; first | (rw [y1] at g25_4; cases g25_4; done) | exact g25_12 (if_pos y2) | exact absurd y3 (by rw [show msgB (⟨q1_0, q2_0, q3_0, q4_0, q5_0, q6_0, q7_0, q8_0, q9_0, q10_0, q11_0.data.toList, q12_0, q12_1, q14_0, resZ⟩ : MsgV) = false from h25]; decide))]
     replace HG := HG.grow (G4.trans (G12.trans (G23.trans (G28.trans (G35.trans (G42.trans G50))))))
     replace HG := HG.nS G58
     replace HG := HG.nS G65
     replace HG := HG.nS G72
     replace HG := HG.nS G79
     replace HG := HG.nS G86
     replace HG := HG.nS G93
     replace HG := HG.nS G100
     replace HG := HG.nS G107
     replace HG := HG.n1 G111
     replace HG := HG.nS G119
     replace HG := HG.nS G128
     replace HG := HG.n1 G131
     replace HG := HG.grow G139
     replace HG := HG.nS G147
     replace HG := HG.grow G154
     replace HG := HG.n1 G158
     replace HG := HG.nS G166
     replace HG := HG.nS G173
     replace HG := HG.nS G182
     replace HG := HG.n1 G192
     exact ⟨none, 0, none, 0, none, 0, none, 0, none, 0, (by first | rfl | simp only [List.length_set]), V.Row.nil, (Sl.nil _ _ _ _ _ (Nat.zero_le _)), V.Row.nil, V.Row.nil, (Sl.nil _ _ _ _ _ (Nat.zero_le _)), HG⟩
    ·
     try replace g25_12 := V.dec g25_12
     try simp only [V.mk] at g25_12
     refine V.yes rfl rfl rfl ?_
     refine V.loadO T_ok F179 rfl rfl rfl rfl rfl ?_
     refine V.yes rfl rfl rfl ?_
     replace F126 := F126.gr G139
     replace F126 := F126.mS G147
     replace F126 := F126.gr G154
     replace F126 := F126.ma G158
     replace F126 := F126.mS G166
     replace F126 := F126.mS G173
     replace F126 := F126.mS G182
     replace F152 := F152.ma G158
     replace F152 := F152.mS G166
     replace F152 := F152.mS G173
     replace F152 := F152.mS G182
     refine V.call (mright_spec (mm := (⟨q1_0, q2_0, q3_0, q4_0, q5_0, q6_0, q7_0, q8_0, q9_0, q10_0, q11_0.data.toList, q12_0, q12_1, q14_0, (⟨0, 0, 0, [], false, 0, 0, ByteArray.empty, 0, 0, (⟨0, 0, 0, 0, 0, 0, 0, []⟩ : RecV)⟩ : ResV)⟩ : MsgV)) F126.sl (fun k hk => by have := hk.2; omega) F152 (fun k hk => by have := hk.2; omega) F180.sl (fun k hk => by have := hk.2; omega) (Sl.nil _ _ V.None' _ _ (Nat.zero_le _)) (fun _ h => h.elim) (Sl.nil _ _ V.None' _ _ (Nat.zero_le _)) (fun _ h => h.elim) (by first | (with_reducible assumption) | exact hz)) rfl rfl rfl ?_
     rintro _ w196 ⟨rfl, G197⟩
     have z198 := V.Fr.size G197
     refine V.ru 2 ?_
     refine V.nt ?_
     refine V.condT rfl (fun h25 => ?_) (fun h25 => ?_)
     ·
      try replace h25 := V.dec h25
      try simp only [V.mk] at h25
      refine V.sr ?_
      refine V.mkStruct T_ok zero50 rfl rfl rfl rfl rfl ?_
      replace Fk2 := Fk2.gr (G12.trans (G23.trans (G28.trans (G35.trans (G42.trans G50)))))
      replace Fk2 := Fk2.mS G58
      replace Fk2 := Fk2.mS G65
      replace Fk2 := Fk2.mS G72
      replace Fk2 := Fk2.mS G79
      replace Fk2 := Fk2.mS G86
      replace Fk2 := Fk2.mS G93
      replace Fk2 := Fk2.mS G100
      replace Fk2 := Fk2.mS G107
      replace Fk2 := Fk2.ma G111
      replace Fk2 := Fk2.mS G119
      replace Fk2 := Fk2.mS G128
      replace Fk2 := Fk2.ma G131
      replace Fk2 := Fk2.gr G139
      replace Fk2 := Fk2.mS G147
      replace Fk2 := Fk2.gr G154
      replace Fk2 := Fk2.ma G158
      replace Fk2 := Fk2.mS G166
      replace Fk2 := Fk2.mS G173
      replace Fk2 := Fk2.mS G182
      replace Fk2 := Fk2.gr G197
      refine V.storeO Fk2 rfl rfl rfl rfl sz50 rfl rfl rfl rfl ?_
      rintro w199 G200 z202 Fs201
      clear Fk2
      have z203 := V.Fr.size G200
      have Fk2 := Fs201; clear Fs201
      simp only [V.spliceL, V.cellsL] at Fk2
      refine V.ru 1 ?_
      refine V.nt ?_
      refine V.ret ?_
      refine V.tR ?_
      refine V.done2 rfl (V.resV_cell T_ok Fk2 rfl rfl) (V.resV_tmp rfl) ?_
      rw [show decMsg b = none from decM_no hw1 hR (by rintro ⟨y1, y2, y3⟩; first | (rw [y1] at g25_4; cases g25_4; done) | exact g25_12 (if_pos y2) | exact absurd y3 (by rw [show msgB (⟨q1_0, q2_0, q3_0, q4_0, q5_0, q6_0, q7_0, q8_0, q9_0, q10_0, q11_0.data.toList, q12_0, q12_1, q14_0, resZ⟩ : MsgV) = false from h25]; decide))]
      replace HG := HG.grow (G4.trans (G12.trans (G23.trans (G28.trans (G35.trans (G42.trans G50))))))
      replace HG := HG.nS G58
      replace HG := HG.nS G65
      replace HG := HG.nS G72
      replace HG := HG.nS G79
      replace HG := HG.nS G86
      replace HG := HG.nS G93
      replace HG := HG.nS G100
      replace HG := HG.nS G107
      replace HG := HG.n1 G111
      replace HG := HG.nS G119
      replace HG := HG.nS G128
      replace HG := HG.n1 G131
      replace HG := HG.grow G139
      replace HG := HG.nS G147
      replace HG := HG.grow G154
      replace HG := HG.n1 G158
      replace HG := HG.nS G166
      replace HG := HG.nS G173
      replace HG := HG.nS G182
      replace HG := HG.grow G197
      replace HG := HG.n1 G200
      exact ⟨none, 0, none, 0, none, 0, none, 0, none, 0, (by first | rfl | simp only [List.length_set]), V.Row.nil, (Sl.nil _ _ _ _ _ (Nat.zero_le _)), V.Row.nil, V.Row.nil, (Sl.nil _ _ _ _ _ (Nat.zero_le _)), HG⟩
     ·
      try replace h25 := V.dec h25
      try simp only [V.mk] at h25
      refine V.skip ?_
      refine V.tN ?_
      refine V.sr ?_
      replace F179 := F179.gr G197
      refine V.loadO T_ok F179 rfl rfl rfl rfl rfl ?_
      replace Fk2 := Fk2.gr (G12.trans (G23.trans (G28.trans (G35.trans (G42.trans G50)))))
      replace Fk2 := Fk2.mS G58
      replace Fk2 := Fk2.mS G65
      replace Fk2 := Fk2.mS G72
      replace Fk2 := Fk2.mS G79
      replace Fk2 := Fk2.mS G86
      replace Fk2 := Fk2.mS G93
      replace Fk2 := Fk2.mS G100
      replace Fk2 := Fk2.mS G107
      replace Fk2 := Fk2.ma G111
      replace Fk2 := Fk2.mS G119
      replace Fk2 := Fk2.mS G128
      replace Fk2 := Fk2.ma G131
      replace Fk2 := Fk2.gr G139
      replace Fk2 := Fk2.mS G147
      replace Fk2 := Fk2.gr G154
      replace Fk2 := Fk2.ma G158
      replace Fk2 := Fk2.mS G166
      replace Fk2 := Fk2.mS G173
      replace Fk2 := Fk2.mS G182
      replace Fk2 := Fk2.gr G197
      refine V.storeO Fk2 rfl rfl rfl rfl sz50 rfl rfl rfl rfl ?_
      rintro w204 G205 z207 Fs206
      clear Fk2
      have z208 := V.Fr.size G205
      have Fk2 := Fs206; clear Fs206
      simp only [V.spliceL, V.cellsL] at Fk2
      refine V.ru 1 ?_
      refine V.nt ?_
      refine V.ret ?_
      refine V.done2 rfl (V.resV_cell T_ok Fk2 rfl rfl) (V.resV_tmp rfl) ?_
      rw [show decMsg b = some (⟨q1_0, q2_0, q3_0, q4_0, q5_0, q6_0, q7_0, q8_0, q9_0, q10_0, q11_0.data.toList, q12_0, q12_1, q14_0, resZ⟩ : MsgV) from decM_yes h2 hw1 hR (by exact g25_4) (by by_cases hd : d13 = []; exact hd; rw [if_neg hd] at g25_12; cases g25_12) (by exact h25)]
      replace F126 := F126.gr G197
      replace F126 := F126.ma G205
      replace F152 := F152.gr G197
      replace F152 := F152.ma G205
      replace F180 := F180.gr G197
      replace F180 := F180.ma G205
      replace HG := HG.grow (G4.trans (G12.trans (G23.trans (G28.trans (G35.trans (G42.trans G50))))))
      replace HG := HG.nS G58
      replace HG := HG.nS G65
      replace HG := HG.nS G72
      replace HG := HG.nS G79
      replace HG := HG.nS G86
      replace HG := HG.nS G93
      replace HG := HG.nS G100
      replace HG := HG.nS G107
      replace HG := HG.n1 G111
      replace HG := HG.nS G119
      replace HG := HG.nS G128
      replace HG := HG.n1 G131
      replace HG := HG.grow G139
      replace HG := HG.nS G147
      replace HG := HG.grow G154
      replace HG := HG.n1 G158
      replace HG := HG.nS G166
      replace HG := HG.nS G173
      replace HG := HG.nS G182
      replace HG := HG.grow G197
      replace HG := HG.n1 G205
      exact ⟨a122, c123, a150, c151, a176, c177, none, 0, none, 0, (by first | rfl | simp only [List.length_set]), F126.re, F152.re, F180.re, V.Row.nil, (Sl.nil _ _ _ _ _ (Nat.zero_le _)), HG⟩
  ·
   try replace h20 := V.dec h20
   try simp only [V.mk] at h20
   refine V.sr ?_
   refine V.ru 2 ?_
   refine V.nt ?_
   refine V.condT rfl (fun h23 => ?_) (fun h23 => ?_)
   ·
    try replace h23 := V.dec h23
    try simp only [V.mk] at h23
    refine V.region ?_
    refine V.ru 1 ?_
    refine V.call (mtk_res (Ft := F163) (FX := F162) (n1 := by omega) (n5 := (by intro h; first | exact n5 h.1 | (have := h.1; have := h.2; omega)))) rfl rfl rfl ?_
    rintro _ w217 ⟨a209, c210, a211, c212, rfl, F213, F214, F215, F216, G218⟩
    have z219 := V.Fr.size G218
    refine V.ru 1 ?_
    replace F164 := F164.mS G218
    refine V.storeO F164 rfl rfl rfl rfl sz48 rfl rfl rfl rfl ?_
    rintro w220 G221 z223 Fs222
    clear F164
    have z224 := V.Fr.size G221
    have F164 := Fs222; clear Fs222
    simp only [V.spliceL, V.cellsL] at F164
    refine V.nil ?_
    refine V.bN ?_
    refine V.tN ?_
    refine V.seq ?_
    refine V.seq ?_
    have z225 : w165.heap.size ≤ w220.heap.size := by omega
    have hhF10_14 : w11.heap.size ≤ w220.heap.size := by omega
    have hhF126_14 : w127.heap.size ≤ w220.heap.size := by omega
    have hhF152_14 : w153.heap.size ≤ w220.heap.size := by omega
    have hhF215_14 : w217.heap.size ≤ w220.heap.size := by omega
    have hhF216_14 : w217.heap.size ≤ w220.heap.size := by omega
    try clear z174
    try clear z175
    try clear z183
    try clear z184
    try clear z188
    try clear z189
    try clear z194
    try clear z195
    try clear z198
    try clear z202
    try clear z203
    try clear z207
    try clear z208
    try clear z219
    try clear z223
    try clear z224
    replace F213 := F213.ma G221
    generalize hd15 : (resL b12 d12).2.2 = d15 at F213
    replace F214 := F214.ma G221
    generalize hb15 : (resL b12 d12).2.1 = b15 at F214
    have hk15 : SzR ((resL b12 d12).1) := resL_sz _ _
    replace F215 := F215.ma G221
    replace F216 := F216.ma G221
    generalize hq15_0 : (resL b12 d12).1 = q15_0 at F215 F216 F164 hk15 ⊢
    have hR : decAllM x0 = ((⟨q1_0, q2_0, q3_0, q4_0, q5_0, q6_0, q7_0, q8_0, q9_0, q10_0, q11_0.data.toList, q12_0, q12_1, cmdZ, q15_0⟩ : MsgV), b15, d15) := by
     unfold decAllM; rw [kN_eq hq1_0 hb1 hd1, kN_eq hq2_0 hb2 hd2, kN_eq hq3_0 hb3 hd3, kN_eq hq4_0 hb4 hd4, kN_eq hq5_0 hb5 hd5, kN_eq hq6_0 hb6 hd6, kN_eq hq7_0 hb7 hd7, kN_eq hq8_0 hb8 hd8, kF_eq hq9_0 hb9 hd9, kE_eq hq10_0 hb10 hd10, kT_eq hq11_0 hb11 hd11, kS_eq hq12_0 hq12_1 hb12 hd12, if_neg h20, if_pos h23, kX_eq hq15_0 hb15 hd15]
    have hsz : SzM (⟨q1_0, q2_0, q3_0, q4_0, q5_0, q6_0, q7_0, q8_0, q9_0, q10_0, q11_0.data.toList, q12_0, q12_1, cmdZ, q15_0⟩ : MsgV) := ⟨szZ, hk15⟩
    have hsz : SzM (⟨q1_0, q2_0, q3_0, q4_0, q5_0, q6_0, q7_0, q8_0, q9_0, q10_0, q11_0.data.toList, q12_0, q12_1, (⟨0, 0, 0, 0, 0, 0, ByteArray.empty, 0, 0, 0, ByteArray.empty, ByteArray.empty, ByteArray.empty, false, 0, 0, 0, 0, false, false, [], 0⟩ : CmdV), q15_0⟩ : MsgV) := hsz
    refine V.region ?_
    refine V.ru 3 ?_
    refine V.loadO T_ok F214 rfl rfl rfl rfl rfl ?_
    refine V.ru 1 ?_
    refine V.split (j := 4) (t := 81) rfl rfl (fun g25_4 => ?_) (fun g25_4 => ?_)
    ·
     try replace g25_4 := V.dec g25_4
     try simp only [V.mk] at g25_4
     refine V.ru 12 ?_
     refine V.nt ?_
     refine V.condY rfl rfl ?_
     refine V.sr ?_
     refine V.mkStruct T_ok zero50 rfl rfl rfl rfl rfl ?_
     replace Fk2 := Fk2.gr (G12.trans (G23.trans (G28.trans (G35.trans (G42.trans G50)))))
     replace Fk2 := Fk2.mS G58
     replace Fk2 := Fk2.mS G65
     replace Fk2 := Fk2.mS G72
     replace Fk2 := Fk2.mS G79
     replace Fk2 := Fk2.mS G86
     replace Fk2 := Fk2.mS G93
     replace Fk2 := Fk2.mS G100
     replace Fk2 := Fk2.mS G107
     replace Fk2 := Fk2.ma G111
     replace Fk2 := Fk2.mS G119
     replace Fk2 := Fk2.mS G128
     replace Fk2 := Fk2.ma G131
     replace Fk2 := Fk2.gr G139
     replace Fk2 := Fk2.mS G147
     replace Fk2 := Fk2.gr G154
     replace Fk2 := Fk2.ma G158
     replace Fk2 := Fk2.mS G166
     replace Fk2 := Fk2.mS G218
     replace Fk2 := Fk2.ma G221
     refine V.storeO Fk2 rfl rfl rfl rfl sz50 rfl rfl rfl rfl ?_
     rintro w226 G227 z229 Fs228
     clear Fk2
     have z230 := V.Fr.size G227
     have Fk2 := Fs228; clear Fs228
     simp only [V.spliceL, V.cellsL] at Fk2
     refine V.ru 1 ?_
     refine V.nt ?_
     refine V.ret ?_
     refine V.tR ?_
     refine V.done2 rfl (V.resV_cell T_ok Fk2 rfl rfl) (V.resV_tmp rfl) ?_
     rw [show decMsg b = none from decM_no hw1 hR (by rintro ⟨y1, y2, y3⟩; first | (rw [y1] at g25_4; cases g25_4; done) | exact g25_12 (if_pos y2) | exact absurd y3 (by rw [show msgB (⟨q1_0, q2_0, q3_0, q4_0, q5_0, q6_0, q7_0, q8_0, q9_0, q10_0, q11_0.data.toList, q12_0, q12_1, cmdZ, q15_0⟩ : MsgV) = false from h25]; decide))]
     replace HG := HG.grow (G4.trans (G12.trans (G23.trans (G28.trans (G35.trans (G42.trans G50))))))
     replace HG := HG.nS G58
     replace HG := HG.nS G65
     replace HG := HG.nS G72
     replace HG := HG.nS G79
     replace HG := HG.nS G86
     replace HG := HG.nS G93
     replace HG := HG.nS G100
     replace HG := HG.nS G107
     replace HG := HG.n1 G111
     replace HG := HG.nS G119
     replace HG := HG.nS G128
     replace HG := HG.n1 G131
     replace HG := HG.grow G139
     replace HG := HG.nS G147
     replace HG := HG.grow G154
     replace HG := HG.n1 G158
     replace HG := HG.nS G166
     replace HG := HG.nS G218
     replace HG := HG.n1 G221
     replace HG := HG.n1 G227
     exact ⟨none, 0, none, 0, none, 0, none, 0, none, 0, (by first | rfl | simp only [List.length_set]), V.Row.nil, (Sl.nil _ _ _ _ _ (Nat.zero_le _)), V.Row.nil, V.Row.nil, (Sl.nil _ _ _ _ _ (Nat.zero_le _)), HG⟩
    ·
     try replace g25_4 := V.dec g25_4
     try simp only [V.mk] at g25_4
     refine V.ru 3 ?_
     refine V.yes rfl rfl rfl ?_
     refine V.loadO T_ok F214 rfl rfl rfl rfl rfl ?_
     refine V.yes rfl rfl rfl ?_
     refine V.call (rd_end F213) rfl rfl rfl ?_
     rintro _ w220_ ⟨rfl, rfl⟩
     refine V.ru 3 ?_
     refine V.split (j := 12) (t := 89) rfl rfl (fun g25_12 => ?_) (fun g25_12 => ?_)
     ·
      try replace g25_12 := V.dec g25_12
      try simp only [V.mk] at g25_12
      refine V.ru 4 ?_
      refine V.nt ?_
      refine V.condY rfl rfl ?_
      refine V.sr ?_
      refine V.mkStruct T_ok zero50 rfl rfl rfl rfl rfl ?_
      replace Fk2 := Fk2.gr (G12.trans (G23.trans (G28.trans (G35.trans (G42.trans G50)))))
      replace Fk2 := Fk2.mS G58
      replace Fk2 := Fk2.mS G65
      replace Fk2 := Fk2.mS G72
      replace Fk2 := Fk2.mS G79
      replace Fk2 := Fk2.mS G86
      replace Fk2 := Fk2.mS G93
      replace Fk2 := Fk2.mS G100
      replace Fk2 := Fk2.mS G107
      replace Fk2 := Fk2.ma G111
      replace Fk2 := Fk2.mS G119
      replace Fk2 := Fk2.mS G128
      replace Fk2 := Fk2.ma G131
      replace Fk2 := Fk2.gr G139
      replace Fk2 := Fk2.mS G147
      replace Fk2 := Fk2.gr G154
      replace Fk2 := Fk2.ma G158
      replace Fk2 := Fk2.mS G166
      replace Fk2 := Fk2.mS G218
      replace Fk2 := Fk2.ma G221
      refine V.storeO Fk2 rfl rfl rfl rfl sz50 rfl rfl rfl rfl ?_
      rintro w232 G233 z235 Fs234
      clear Fk2
      have z236 := V.Fr.size G233
      have Fk2 := Fs234; clear Fs234
      simp only [V.spliceL, V.cellsL] at Fk2
      refine V.ru 1 ?_
      refine V.nt ?_
      refine V.ret ?_
      refine V.tR ?_
      refine V.done2 rfl (V.resV_cell T_ok Fk2 rfl rfl) (V.resV_tmp rfl) ?_
      rw [show decMsg b = none from decM_no hw1 hR (by rintro ⟨y1, y2, y3⟩; first | (rw [y1] at g25_4; cases g25_4; done) | exact g25_12 (if_pos y2) | exact absurd y3 (by rw [show msgB (⟨q1_0, q2_0, q3_0, q4_0, q5_0, q6_0, q7_0, q8_0, q9_0, q10_0, q11_0.data.toList, q12_0, q12_1, cmdZ, q15_0⟩ : MsgV) = false from h25]; decide))]
      replace HG := HG.grow (G4.trans (G12.trans (G23.trans (G28.trans (G35.trans (G42.trans G50))))))
      replace HG := HG.nS G58
      replace HG := HG.nS G65
      replace HG := HG.nS G72
      replace HG := HG.nS G79
      replace HG := HG.nS G86
      replace HG := HG.nS G93
      replace HG := HG.nS G100
      replace HG := HG.nS G107
      replace HG := HG.n1 G111
      replace HG := HG.nS G119
      replace HG := HG.nS G128
      replace HG := HG.n1 G131
      replace HG := HG.grow G139
      replace HG := HG.nS G147
      replace HG := HG.grow G154
      replace HG := HG.n1 G158
      replace HG := HG.nS G166
      replace HG := HG.nS G218
      replace HG := HG.n1 G221
      replace HG := HG.n1 G233
      exact ⟨none, 0, none, 0, none, 0, none, 0, none, 0, (by first | rfl | simp only [List.length_set]), V.Row.nil, (Sl.nil _ _ _ _ _ (Nat.zero_le _)), V.Row.nil, V.Row.nil, (Sl.nil _ _ _ _ _ (Nat.zero_le _)), HG⟩
     ·
      try replace g25_12 := V.dec g25_12
      try simp only [V.mk] at g25_12
      refine V.yes rfl rfl rfl ?_
      refine V.loadO T_ok F164 rfl rfl rfl rfl rfl ?_
      refine V.yes rfl rfl rfl ?_
      replace F126 := F126.gr G139
      replace F126 := F126.mS G147
      replace F126 := F126.gr G154
      replace F126 := F126.ma G158
      replace F126 := F126.mS G166
      replace F126 := F126.mS G218
      replace F126 := F126.ma G221
      replace F152 := F152.ma G158
      replace F152 := F152.mS G166
      replace F152 := F152.mS G218
      replace F152 := F152.ma G221
      refine V.call (mright_spec (mm := (⟨q1_0, q2_0, q3_0, q4_0, q5_0, q6_0, q7_0, q8_0, q9_0, q10_0, q11_0.data.toList, q12_0, q12_1, (⟨0, 0, 0, 0, 0, 0, ByteArray.empty, 0, 0, 0, ByteArray.empty, ByteArray.empty, ByteArray.empty, false, 0, 0, 0, 0, false, false, [], 0⟩ : CmdV), q15_0⟩ : MsgV)) F126.sl (fun k hk => by have := hk.2; omega) F152 (fun k hk => by have := hk.2; omega) (Sl.nil _ _ V.None' _ _ (Nat.zero_le _)) (fun _ h => h.elim) F215.sl (fun k hk => by have := hk.2; omega) F216 (fun k hk => by have := hk.2; omega) (by first | (with_reducible assumption) | exact hz)) rfl rfl rfl ?_
      rintro _ w237 ⟨rfl, G238⟩
      have z239 := V.Fr.size G238
      refine V.ru 2 ?_
      refine V.nt ?_
      refine V.condT rfl (fun h25 => ?_) (fun h25 => ?_)
      ·
       try replace h25 := V.dec h25
       try simp only [V.mk] at h25
       refine V.sr ?_
       refine V.mkStruct T_ok zero50 rfl rfl rfl rfl rfl ?_
       replace Fk2 := Fk2.gr (G12.trans (G23.trans (G28.trans (G35.trans (G42.trans G50)))))
       replace Fk2 := Fk2.mS G58
       replace Fk2 := Fk2.mS G65
       replace Fk2 := Fk2.mS G72
       replace Fk2 := Fk2.mS G79
       replace Fk2 := Fk2.mS G86
       replace Fk2 := Fk2.mS G93
       replace Fk2 := Fk2.mS G100
       replace Fk2 := Fk2.mS G107
       replace Fk2 := Fk2.ma G111
       replace Fk2 := Fk2.mS G119
       replace Fk2 := Fk2.mS G128
       replace Fk2 := Fk2.ma G131
       replace Fk2 := Fk2.gr G139
       replace Fk2 := Fk2.mS G147
       replace Fk2 := Fk2.gr G154
       replace Fk2 := Fk2.ma G158
       replace Fk2 := Fk2.mS G166
       replace Fk2 := Fk2.mS G218
       replace Fk2 := Fk2.ma G221
       replace Fk2 := Fk2.gr G238
       refine V.storeO Fk2 rfl rfl rfl rfl sz50 rfl rfl rfl rfl ?_
       rintro w240 G241 z243 Fs242
       clear Fk2
       have z244 := V.Fr.size G241
       have Fk2 := Fs242; clear Fs242
       simp only [V.spliceL, V.cellsL] at Fk2
       refine V.ru 1 ?_
       refine V.nt ?_
       refine V.ret ?_
       refine V.tR ?_
       refine V.done2 rfl (V.resV_cell T_ok Fk2 rfl rfl) (V.resV_tmp rfl) ?_
       rw [show decMsg b = none from decM_no hw1 hR (by rintro ⟨y1, y2, y3⟩; first | (rw [y1] at g25_4; cases g25_4; done) | exact g25_12 (if_pos y2) | exact absurd y3 (by rw [show msgB (⟨q1_0, q2_0, q3_0, q4_0, q5_0, q6_0, q7_0, q8_0, q9_0, q10_0, q11_0.data.toList, q12_0, q12_1, cmdZ, q15_0⟩ : MsgV) = false from h25]; decide))]
       replace HG := HG.grow (G4.trans (G12.trans (G23.trans (G28.trans (G35.trans (G42.trans G50))))))
       replace HG := HG.nS G58
       replace HG := HG.nS G65
       replace HG := HG.nS G72
       replace HG := HG.nS G79
       replace HG := HG.nS G86
       replace HG := HG.nS G93
       replace HG := HG.nS G100
       replace HG := HG.nS G107
       replace HG := HG.n1 G111
       replace HG := HG.nS G119
       replace HG := HG.nS G128
       replace HG := HG.n1 G131
       replace HG := HG.grow G139
       replace HG := HG.nS G147
       replace HG := HG.grow G154
       replace HG := HG.n1 G158
       replace HG := HG.nS G166
       replace HG := HG.nS G218
       replace HG := HG.n1 G221
       replace HG := HG.grow G238
       replace HG := HG.n1 G241
       exact ⟨none, 0, none, 0, none, 0, none, 0, none, 0, (by first | rfl | simp only [List.length_set]), V.Row.nil, (Sl.nil _ _ _ _ _ (Nat.zero_le _)), V.Row.nil, V.Row.nil, (Sl.nil _ _ _ _ _ (Nat.zero_le _)), HG⟩
      ·
       try replace h25 := V.dec h25
       try simp only [V.mk] at h25
       refine V.skip ?_
       refine V.tN ?_
       refine V.sr ?_
       replace F164 := F164.gr G238
       refine V.loadO T_ok F164 rfl rfl rfl rfl rfl ?_
       replace Fk2 := Fk2.gr (G12.trans (G23.trans (G28.trans (G35.trans (G42.trans G50)))))
       replace Fk2 := Fk2.mS G58
       replace Fk2 := Fk2.mS G65
       replace Fk2 := Fk2.mS G72
       replace Fk2 := Fk2.mS G79
       replace Fk2 := Fk2.mS G86
       replace Fk2 := Fk2.mS G93
       replace Fk2 := Fk2.mS G100
       replace Fk2 := Fk2.mS G107
       replace Fk2 := Fk2.ma G111
       replace Fk2 := Fk2.mS G119
       replace Fk2 := Fk2.mS G128
       replace Fk2 := Fk2.ma G131
       replace Fk2 := Fk2.gr G139
       replace Fk2 := Fk2.mS G147
       replace Fk2 := Fk2.gr G154
       replace Fk2 := Fk2.ma G158
       replace Fk2 := Fk2.mS G166
       replace Fk2 := Fk2.mS G218
       replace Fk2 := Fk2.ma G221
       replace Fk2 := Fk2.gr G238
       refine V.storeO Fk2 rfl rfl rfl rfl sz50 rfl rfl rfl rfl ?_
       rintro w245 G246 z248 Fs247
       clear Fk2
       have z249 := V.Fr.size G246
       have Fk2 := Fs247; clear Fs247
       simp only [V.spliceL, V.cellsL] at Fk2
       refine V.ru 1 ?_
       refine V.nt ?_
       refine V.ret ?_
       refine V.done2 rfl (V.resV_cell T_ok Fk2 rfl rfl) (V.resV_tmp rfl) ?_
       rw [show decMsg b = some (⟨q1_0, q2_0, q3_0, q4_0, q5_0, q6_0, q7_0, q8_0, q9_0, q10_0, q11_0.data.toList, q12_0, q12_1, cmdZ, q15_0⟩ : MsgV) from decM_yes h2 hw1 hR (by exact g25_4) (by by_cases hd : d15 = []; exact hd; rw [if_neg hd] at g25_12; cases g25_12) (by exact h25)]
       replace F126 := F126.gr G238
       replace F126 := F126.ma G246
       replace F152 := F152.gr G238
       replace F152 := F152.ma G246
       replace F215 := F215.gr G238
       replace F215 := F215.ma G246
       replace F216 := F216.gr G238
       replace F216 := F216.ma G246
       replace HG := HG.grow (G4.trans (G12.trans (G23.trans (G28.trans (G35.trans (G42.trans G50))))))
       replace HG := HG.nS G58
       replace HG := HG.nS G65
       replace HG := HG.nS G72
       replace HG := HG.nS G79
       replace HG := HG.nS G86
       replace HG := HG.nS G93
       replace HG := HG.nS G100
       replace HG := HG.nS G107
       replace HG := HG.n1 G111
       replace HG := HG.nS G119
       replace HG := HG.nS G128
       replace HG := HG.n1 G131
       replace HG := HG.grow G139
       replace HG := HG.nS G147
       replace HG := HG.grow G154
       replace HG := HG.n1 G158
       replace HG := HG.nS G166
       replace HG := HG.nS G218
       replace HG := HG.n1 G221
       replace HG := HG.grow G238
       replace HG := HG.n1 G246
       exact ⟨a122, c123, a150, c151, none, 0, a209, c210, a211, c212, (by first | rfl | simp only [List.length_set]), F126.re, F152.re, V.Row.nil, F215.re, F216.re, HG⟩
   ·
    try replace h23 := V.dec h23
    try simp only [V.mk] at h23
    refine V.skip ?_
    refine V.bN ?_
    refine V.tN ?_
    refine V.seq ?_
    refine V.seq ?_
    have hR : decAllM x0 = ((⟨q1_0, q2_0, q3_0, q4_0, q5_0, q6_0, q7_0, q8_0, q9_0, q10_0, q11_0.data.toList, q12_0, q12_1, cmdZ, resZ⟩ : MsgV), b12, d12) := by
     unfold decAllM; rw [kN_eq hq1_0 hb1 hd1, kN_eq hq2_0 hb2 hd2, kN_eq hq3_0 hb3 hd3, kN_eq hq4_0 hb4 hd4, kN_eq hq5_0 hb5 hd5, kN_eq hq6_0 hb6 hd6, kN_eq hq7_0 hb7 hd7, kN_eq hq8_0 hb8 hd8, kF_eq hq9_0 hb9 hd9, kE_eq hq10_0 hb10 hd10, kT_eq hq11_0 hb11 hd11, kS_eq hq12_0 hq12_1 hb12 hd12, if_neg h20, if_neg h23]
    have hsz : SzM (⟨q1_0, q2_0, q3_0, q4_0, q5_0, q6_0, q7_0, q8_0, q9_0, q10_0, q11_0.data.toList, q12_0, q12_1, cmdZ, resZ⟩ : MsgV) := ⟨szZ, szRZ⟩
    have hsz : SzM (⟨q1_0, q2_0, q3_0, q4_0, q5_0, q6_0, q7_0, q8_0, q9_0, q10_0, q11_0.data.toList, q12_0, q12_1, (⟨0, 0, 0, 0, 0, 0, ByteArray.empty, 0, 0, 0, ByteArray.empty, ByteArray.empty, ByteArray.empty, false, 0, 0, 0, 0, false, false, [], 0⟩ : CmdV), (⟨0, 0, 0, [], false, 0, 0, ByteArray.empty, 0, 0, (⟨0, 0, 0, 0, 0, 0, 0, []⟩ : RecV)⟩ : ResV)⟩ : MsgV) := hsz
    refine V.region ?_
    refine V.ru 3 ?_
    refine V.loadO T_ok F163 rfl rfl rfl rfl rfl ?_
    refine V.ru 1 ?_
    refine V.split (j := 4) (t := 81) rfl rfl (fun g25_4 => ?_) (fun g25_4 => ?_)
    ·
     try replace g25_4 := V.dec g25_4
     try simp only [V.mk] at g25_4
     refine V.ru 12 ?_
     refine V.nt ?_
     refine V.condY rfl rfl ?_
     refine V.sr ?_
     refine V.mkStruct T_ok zero50 rfl rfl rfl rfl rfl ?_
     replace Fk2 := Fk2.gr (G12.trans (G23.trans (G28.trans (G35.trans (G42.trans G50)))))
     replace Fk2 := Fk2.mS G58
     replace Fk2 := Fk2.mS G65
     replace Fk2 := Fk2.mS G72
     replace Fk2 := Fk2.mS G79
     replace Fk2 := Fk2.mS G86
     replace Fk2 := Fk2.mS G93
     replace Fk2 := Fk2.mS G100
     replace Fk2 := Fk2.mS G107
     replace Fk2 := Fk2.ma G111
     replace Fk2 := Fk2.mS G119
     replace Fk2 := Fk2.mS G128
     replace Fk2 := Fk2.ma G131
     replace Fk2 := Fk2.gr G139
     replace Fk2 := Fk2.mS G147
     replace Fk2 := Fk2.gr G154
     replace Fk2 := Fk2.ma G158
     replace Fk2 := Fk2.mS G166
     refine V.storeO Fk2 rfl rfl rfl rfl sz50 rfl rfl rfl rfl ?_
     rintro w250 G251 z253 Fs252
     clear Fk2
     have z254 := V.Fr.size G251
     have Fk2 := Fs252; clear Fs252
     simp only [V.spliceL, V.cellsL] at Fk2
     refine V.ru 1 ?_
     refine V.nt ?_
     refine V.ret ?_
     refine V.tR ?_
     refine V.done2 rfl (V.resV_cell T_ok Fk2 rfl rfl) (V.resV_tmp rfl) ?_
     rw [show decMsg b = none from decM_no hw1 hR (by rintro ⟨y1, y2, y3⟩; first | (rw [y1] at g25_4; cases g25_4; done) | exact g25_12 (if_pos y2) | exact absurd y3 (by rw [show msgB (⟨q1_0, q2_0, q3_0, q4_0, q5_0, q6_0, q7_0, q8_0, q9_0, q10_0, q11_0.data.toList, q12_0, q12_1, cmdZ, resZ⟩ : MsgV) = false from h25]; decide))]
     replace HG := HG.grow (G4.trans (G12.trans (G23.trans (G28.trans (G35.trans (G42.trans G50))))))
     replace HG := HG.nS G58
     replace HG := HG.nS G65
     replace HG := HG.nS G72
     replace HG := HG.nS G79
     replace HG := HG.nS G86
     replace HG := HG.nS G93
     replace HG := HG.nS G100
     replace HG := HG.nS G107
     replace HG := HG.n1 G111
     replace HG := HG.nS G119
     replace HG := HG.nS G128
     replace HG := HG.n1 G131
     replace HG := HG.grow G139
     replace HG := HG.nS G147
     replace HG := HG.grow G154
     replace HG := HG.n1 G158
     replace HG := HG.nS G166
     replace HG := HG.n1 G251
     exact ⟨none, 0, none, 0, none, 0, none, 0, none, 0, (by first | rfl | simp only [List.length_set]), V.Row.nil, (Sl.nil _ _ _ _ _ (Nat.zero_le _)), V.Row.nil, V.Row.nil, (Sl.nil _ _ _ _ _ (Nat.zero_le _)), HG⟩
    ·
     try replace g25_4 := V.dec g25_4
     try simp only [V.mk] at g25_4
     refine V.ru 3 ?_
     refine V.yes rfl rfl rfl ?_
     refine V.loadO T_ok F163 rfl rfl rfl rfl rfl ?_
     refine V.yes rfl rfl rfl ?_
     refine V.call (rd_end F162) rfl rfl rfl ?_
     rintro _ w165_ ⟨rfl, rfl⟩
     refine V.ru 3 ?_
     refine V.split (j := 12) (t := 89) rfl rfl (fun g25_12 => ?_) (fun g25_12 => ?_)
     ·
      try replace g25_12 := V.dec g25_12
      try simp only [V.mk] at g25_12
      refine V.ru 4 ?_
      refine V.nt ?_
      refine V.condY rfl rfl ?_
      refine V.sr ?_
      refine V.mkStruct T_ok zero50 rfl rfl rfl rfl rfl ?_
      replace Fk2 := Fk2.gr (G12.trans (G23.trans (G28.trans (G35.trans (G42.trans G50)))))
      replace Fk2 := Fk2.mS G58
      replace Fk2 := Fk2.mS G65
      replace Fk2 := Fk2.mS G72
      replace Fk2 := Fk2.mS G79
      replace Fk2 := Fk2.mS G86
      replace Fk2 := Fk2.mS G93
      replace Fk2 := Fk2.mS G100
      replace Fk2 := Fk2.mS G107
      replace Fk2 := Fk2.ma G111
      replace Fk2 := Fk2.mS G119
      replace Fk2 := Fk2.mS G128
      replace Fk2 := Fk2.ma G131
      replace Fk2 := Fk2.gr G139
      replace Fk2 := Fk2.mS G147
      replace Fk2 := Fk2.gr G154
      replace Fk2 := Fk2.ma G158
      replace Fk2 := Fk2.mS G166
      refine V.storeO Fk2 rfl rfl rfl rfl sz50 rfl rfl rfl rfl ?_
      rintro w256 G257 z259 Fs258
      clear Fk2
      have z260 := V.Fr.size G257
      have Fk2 := Fs258; clear Fs258
      simp only [V.spliceL, V.cellsL] at Fk2
      refine V.ru 1 ?_
      refine V.nt ?_
      refine V.ret ?_
      refine V.tR ?_
      refine V.done2 rfl (V.resV_cell T_ok Fk2 rfl rfl) (V.resV_tmp rfl) ?_
      rw [show decMsg b = none from decM_no hw1 hR (by rintro ⟨y1, y2, y3⟩; first | (rw [y1] at g25_4; cases g25_4; done) | exact g25_12 (if_pos y2) | exact absurd y3 (by rw [show msgB (⟨q1_0, q2_0, q3_0, q4_0, q5_0, q6_0, q7_0, q8_0, q9_0, q10_0, q11_0.data.toList, q12_0, q12_1, cmdZ, resZ⟩ : MsgV) = false from h25]; decide))]
      replace HG := HG.grow (G4.trans (G12.trans (G23.trans (G28.trans (G35.trans (G42.trans G50))))))
      replace HG := HG.nS G58
      replace HG := HG.nS G65
      replace HG := HG.nS G72
      replace HG := HG.nS G79
      replace HG := HG.nS G86
      replace HG := HG.nS G93
      replace HG := HG.nS G100
      replace HG := HG.nS G107
      replace HG := HG.n1 G111
      replace HG := HG.nS G119
      replace HG := HG.nS G128
      replace HG := HG.n1 G131
      replace HG := HG.grow G139
      replace HG := HG.nS G147
      replace HG := HG.grow G154
      replace HG := HG.n1 G158
      replace HG := HG.nS G166
      replace HG := HG.n1 G257
      exact ⟨none, 0, none, 0, none, 0, none, 0, none, 0, (by first | rfl | simp only [List.length_set]), V.Row.nil, (Sl.nil _ _ _ _ _ (Nat.zero_le _)), V.Row.nil, V.Row.nil, (Sl.nil _ _ _ _ _ (Nat.zero_le _)), HG⟩
     ·
      try replace g25_12 := V.dec g25_12
      try simp only [V.mk] at g25_12
      refine V.yes rfl rfl rfl ?_
      refine V.loadO T_ok F164 rfl rfl rfl rfl rfl ?_
      refine V.yes rfl rfl rfl ?_
      replace F126 := F126.gr G139
      replace F126 := F126.mS G147
      replace F126 := F126.gr G154
      replace F126 := F126.ma G158
      replace F126 := F126.mS G166
      replace F152 := F152.ma G158
      replace F152 := F152.mS G166
      refine V.call (mright_spec (mm := (⟨q1_0, q2_0, q3_0, q4_0, q5_0, q6_0, q7_0, q8_0, q9_0, q10_0, q11_0.data.toList, q12_0, q12_1, (⟨0, 0, 0, 0, 0, 0, ByteArray.empty, 0, 0, 0, ByteArray.empty, ByteArray.empty, ByteArray.empty, false, 0, 0, 0, 0, false, false, [], 0⟩ : CmdV), (⟨0, 0, 0, [], false, 0, 0, ByteArray.empty, 0, 0, (⟨0, 0, 0, 0, 0, 0, 0, []⟩ : RecV)⟩ : ResV)⟩ : MsgV)) F126.sl (fun k hk => by have := hk.2; omega) F152 (fun k hk => by have := hk.2; omega) (Sl.nil _ _ V.None' _ _ (Nat.zero_le _)) (fun _ h => h.elim) (Sl.nil _ _ V.None' _ _ (Nat.zero_le _)) (fun _ h => h.elim) (Sl.nil _ _ V.None' _ _ (Nat.zero_le _)) (fun _ h => h.elim) (by first | (with_reducible assumption) | exact hz)) rfl rfl rfl ?_
      rintro _ w261 ⟨rfl, G262⟩
      have z263 := V.Fr.size G262
      refine V.ru 2 ?_
      refine V.nt ?_
      refine V.condT rfl (fun h25 => ?_) (fun h25 => ?_)
      ·
       try replace h25 := V.dec h25
       try simp only [V.mk] at h25
       refine V.sr ?_
       refine V.mkStruct T_ok zero50 rfl rfl rfl rfl rfl ?_
       replace Fk2 := Fk2.gr (G12.trans (G23.trans (G28.trans (G35.trans (G42.trans G50)))))
       replace Fk2 := Fk2.mS G58
       replace Fk2 := Fk2.mS G65
       replace Fk2 := Fk2.mS G72
       replace Fk2 := Fk2.mS G79
       replace Fk2 := Fk2.mS G86
       replace Fk2 := Fk2.mS G93
       replace Fk2 := Fk2.mS G100
       replace Fk2 := Fk2.mS G107
       replace Fk2 := Fk2.ma G111
       replace Fk2 := Fk2.mS G119
       replace Fk2 := Fk2.mS G128
       replace Fk2 := Fk2.ma G131
       replace Fk2 := Fk2.gr G139
       replace Fk2 := Fk2.mS G147
       replace Fk2 := Fk2.gr G154
       replace Fk2 := Fk2.ma G158
       replace Fk2 := Fk2.mS G166
       replace Fk2 := Fk2.gr G262
       refine V.storeO Fk2 rfl rfl rfl rfl sz50 rfl rfl rfl rfl ?_
       rintro w264 G265 z267 Fs266
       clear Fk2
       have z268 := V.Fr.size G265
       have Fk2 := Fs266; clear Fs266
       simp only [V.spliceL, V.cellsL] at Fk2
       refine V.ru 1 ?_
       refine V.nt ?_
       refine V.ret ?_
       refine V.tR ?_
       refine V.done2 rfl (V.resV_cell T_ok Fk2 rfl rfl) (V.resV_tmp rfl) ?_
       rw [show decMsg b = none from decM_no hw1 hR (by rintro ⟨y1, y2, y3⟩; first | (rw [y1] at g25_4; cases g25_4; done) | exact g25_12 (if_pos y2) | exact absurd y3 (by rw [show msgB (⟨q1_0, q2_0, q3_0, q4_0, q5_0, q6_0, q7_0, q8_0, q9_0, q10_0, q11_0.data.toList, q12_0, q12_1, cmdZ, resZ⟩ : MsgV) = false from h25]; decide))]
       replace HG := HG.grow (G4.trans (G12.trans (G23.trans (G28.trans (G35.trans (G42.trans G50))))))
       replace HG := HG.nS G58
       replace HG := HG.nS G65
       replace HG := HG.nS G72
       replace HG := HG.nS G79
       replace HG := HG.nS G86
       replace HG := HG.nS G93
       replace HG := HG.nS G100
       replace HG := HG.nS G107
       replace HG := HG.n1 G111
       replace HG := HG.nS G119
       replace HG := HG.nS G128
       replace HG := HG.n1 G131
       replace HG := HG.grow G139
       replace HG := HG.nS G147
       replace HG := HG.grow G154
       replace HG := HG.n1 G158
       replace HG := HG.nS G166
       replace HG := HG.grow G262
       replace HG := HG.n1 G265
       exact ⟨none, 0, none, 0, none, 0, none, 0, none, 0, (by first | rfl | simp only [List.length_set]), V.Row.nil, (Sl.nil _ _ _ _ _ (Nat.zero_le _)), V.Row.nil, V.Row.nil, (Sl.nil _ _ _ _ _ (Nat.zero_le _)), HG⟩
      ·
       try replace h25 := V.dec h25
       try simp only [V.mk] at h25
       refine V.skip ?_
       refine V.tN ?_
       refine V.sr ?_
       replace F164 := F164.gr G262
       refine V.loadO T_ok F164 rfl rfl rfl rfl rfl ?_
       replace Fk2 := Fk2.gr (G12.trans (G23.trans (G28.trans (G35.trans (G42.trans G50)))))
       replace Fk2 := Fk2.mS G58
       replace Fk2 := Fk2.mS G65
       replace Fk2 := Fk2.mS G72
       replace Fk2 := Fk2.mS G79
       replace Fk2 := Fk2.mS G86
       replace Fk2 := Fk2.mS G93
       replace Fk2 := Fk2.mS G100
       replace Fk2 := Fk2.mS G107
       replace Fk2 := Fk2.ma G111
       replace Fk2 := Fk2.mS G119
       replace Fk2 := Fk2.mS G128
       replace Fk2 := Fk2.ma G131
       replace Fk2 := Fk2.gr G139
       replace Fk2 := Fk2.mS G147
       replace Fk2 := Fk2.gr G154
       replace Fk2 := Fk2.ma G158
       replace Fk2 := Fk2.mS G166
       replace Fk2 := Fk2.gr G262
       refine V.storeO Fk2 rfl rfl rfl rfl sz50 rfl rfl rfl rfl ?_
       rintro w269 G270 z272 Fs271
       clear Fk2
       have z273 := V.Fr.size G270
       have Fk2 := Fs271; clear Fs271
       simp only [V.spliceL, V.cellsL] at Fk2
       refine V.ru 1 ?_
       refine V.nt ?_
       refine V.ret ?_
       refine V.done2 rfl (V.resV_cell T_ok Fk2 rfl rfl) (V.resV_tmp rfl) ?_
       rw [show decMsg b = some (⟨q1_0, q2_0, q3_0, q4_0, q5_0, q6_0, q7_0, q8_0, q9_0, q10_0, q11_0.data.toList, q12_0, q12_1, cmdZ, resZ⟩ : MsgV) from decM_yes h2 hw1 hR (by exact g25_4) (by by_cases hd : d12 = []; exact hd; rw [if_neg hd] at g25_12; cases g25_12) (by exact h25)]
       replace F126 := F126.gr G262
       replace F126 := F126.ma G270
       replace F152 := F152.gr G262
       replace F152 := F152.ma G270
       replace HG := HG.grow (G4.trans (G12.trans (G23.trans (G28.trans (G35.trans (G42.trans G50))))))
       replace HG := HG.nS G58
       replace HG := HG.nS G65
       replace HG := HG.nS G72
       replace HG := HG.nS G79
       replace HG := HG.nS G86
       replace HG := HG.nS G93
       replace HG := HG.nS G100
       replace HG := HG.nS G107
       replace HG := HG.n1 G111
       replace HG := HG.nS G119
       replace HG := HG.nS G128
       replace HG := HG.n1 G131
       replace HG := HG.grow G139
       replace HG := HG.nS G147
       replace HG := HG.grow G154
       replace HG := HG.n1 G158
       replace HG := HG.nS G166
       replace HG := HG.grow G262
       replace HG := HG.n1 G270
       exact ⟨a122, c123, a150, c151, none, 0, none, 0, none, 0, (by first | rfl | simp only [List.length_set]), F126.re, F152.re, V.Row.nil, V.Row.nil, (Sl.nil _ _ _ _ _ (Nat.zero_le _)), HG⟩

end Go.Proofs.YtmmgmkklakkooaaGreat
