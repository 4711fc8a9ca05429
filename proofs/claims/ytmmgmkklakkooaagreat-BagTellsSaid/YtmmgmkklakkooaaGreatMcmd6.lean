/- Proved here: walks: what functions of this seat's program return and what they leave of memory, each as a contract. Conditions: stated at each theorem. -/
import Derived.Test.YtmmgmkklakkooaaGreatMcmd5
namespace Go.Proofs.YtmmgmkklakkooaaGreat
set_option linter.unusedVariables false
set_option linter.unusedSimpArgs false
open Go
open V (Bytes Meets Env Sl Own Gr Fr Cells S)

def kN {α : Type} (b : Bool) (d : List UInt8) (k : Int → Bool → List UInt8 → α) : α := k (rdN d 1099511627776).1.1 (b || decide (¬ (rdN d 1099511627776).1.2 = 0)) (rdN d 1099511627776).2
def kT {α : Type} (b : Bool) (d : List UInt8) (k : ByteArray → Bool → List UInt8 → α) : α := k (S (rdT d 65536).1.1) (b || decide (¬ (rdT d 65536).1.2 = 0)) (rdT d 65536).2
def kS {α : Type} (b : Bool) (d : List UInt8) (k : Int → Int → Bool → List UInt8 → α) : α := k (rdS d).1.1.1 (rdS d).1.1.2 (b || decide (¬ (rdS d).1.2 = 0)) (rdS d).2
def kF {α : Type} (b : Bool) (d : List UInt8) (k : Bool → Bool → List UInt8 → α) : α := k (rdF d).1.1 (b || decide (¬ (rdF d).1.2 = 0)) (rdF d).2
theorem kN_eq {α : Type} {b b' : Bool} {d d' : List UInt8} {q : Int} {k : Int → Bool → List UInt8 → α} (h1 : (rdN d 1099511627776).1.1 = q) (h2 : (b || decide (¬ (rdN d 1099511627776).1.2 = 0)) = b') (h3 : (rdN d 1099511627776).2 = d') : kN b d k = k q b' d' := by subst h1 h2 h3; rfl
theorem kT_eq {α : Type} {b b' : Bool} {d d' : List UInt8} {q : ByteArray} {k : ByteArray → Bool → List UInt8 → α} (h1 : S (rdT d 65536).1.1 = q) (h2 : (b || decide (¬ (rdT d 65536).1.2 = 0)) = b') (h3 : (rdT d 65536).2 = d') : kT b d k = k q b' d' := by subst h1 h2 h3; rfl
theorem kS_eq {α : Type} {b b' : Bool} {d d' : List UInt8} {q r : Int} {k : Int → Int → Bool → List UInt8 → α} (h1 : (rdS d).1.1.1 = q) (h0 : (rdS d).1.1.2 = r) (h2 : (b || decide (¬ (rdS d).1.2 = 0)) = b') (h3 : (rdS d).2 = d') : kS b d k = k q r b' d' := by subst h1 h0 h2 h3; rfl
theorem kF_eq {α : Type} {b b' q : Bool} {d d' : List UInt8} {k : Bool → Bool → List UInt8 → α} (h1 : (rdF d).1.1 = q) (h2 : (b || decide (¬ (rdF d).1.2 = 0)) = b') (h3 : (rdF d).2 = d') : kF b d k = k q b' d' := by subst h1 h2 h3; rfl
/-- the writes that come next -/
def wrL : Nat → Bool → List UInt8 → List (ByteArray × Int) → Bool × List UInt8 × List (ByteArray × Int)
  | 0, b, d, acc => (b, d, acc)
  | n + 1, b, d, acc => if b = true then (b, d, acc) else kT b d fun tx b d => kN b d fun sq b d => wrL n b d (acc ++ [(tx, sq)])
def decEnd (kd id le nd ti te : Int) (an : ByteArray) (sw sl sq : Int) (fr to va : ByteArray) (go : Bool) (aw al lw ll : Int) (cm st : Bool) (x : Bool × List UInt8 × List (ByteArray × Int)) : CmdV × Bool × List UInt8 :=
  kN x.1 x.2.1 fun pr b d => (⟨kd, id, le, nd, ti, te, an, sw, sl, sq, fr, to, va, go, aw, al, lw, ll, cm, st, x.2.2, pr⟩, b, d)
/-- what a command's bytes are read as, whatever comes of it -/
def decAll (d : List UInt8) : CmdV × Bool × List UInt8 :=
  kN false d fun kd b d => kN b d fun id b d => kN b d fun le b d => kN b d fun nd b d => kN b d fun ti b d => kN b d fun te b d => kT b d fun an b d => kS b d fun sw sl b d => kN b d fun sq b d =>
  kT b d fun fr b d => kT b d fun to b d => kT b d fun va b d => kF b d fun go b d => kS b d fun aw al b d => kS b d fun lw ll b d => kF b d fun cm b d => kF b d fun st b d => kN b d fun n b d => decEnd kd id le nd ti te an sw sl sq fr to va go aw al lw ll cm st (wrL n.toNat b d [])
/-- the command of bytes -/
def decC (d : List UInt8) : Option CmdV := if (decAll d).2.1 = false ∧ (decAll d).2.2 = [] ∧ cmdB (decAll d).1 = true then some (decAll d).1 else none
def cmdZ : CmdV := ⟨0, 0, 0, 0, 0, 0, S [], 0, 0, 0, S [], S [], S [], false, 0, 0, 0, 0, false, false, [], 0⟩
theorem rdT_leM (d : List UInt8) : (rdT d 65536).1.1.length ≤ 65536 := by
  unfold rdT
  split
  · simp
  · simp only [List.length_take]; omega
theorem szT {d : List UInt8} {q : ByteArray} (h : S (rdT d 65536).1.1 = q) : q.size ≤ 9223372036854775807 := by
  have := rdT_leM d
  subst h; rw [V.S_size]; omega
theorem rdN_rng0 (d : List UInt8) {m : Int} (hm : 0 ≤ m) : 0 ≤ (rdN d m).1.1 ∧ (rdN d m).1.1 ≤ m := by
  unfold rdN
  split
  · simp; exact hm
  · simp only; omega
theorem rngN {d : List UInt8} {q : Int} (h : (rdN d 1099511627776).1.1 = q) : 0 ≤ q ∧ q ≤ 1099511627776 := h ▸ rdN_rng0 d (by decide)
theorem wrL_end {n : Int} {b : Bool} {d : List UInt8} {acc : List (ByteArray × Int)} (h : ¬ (0 < n ∧ b = false)) : wrL n.toNat b d acc = (b, d, acc) := by
  rcases hn : n.toNat with _ | k
  · rfl
  · cases b
    · exact absurd ⟨by omega, rfl⟩ h
    · rfl
theorem wrL_succ {n : Int} {b : Bool} {d : List UInt8} {acc : List (ByteArray × Int)} (h : 0 < n) (hb : b = false) : wrL n.toNat b d acc = kT b d fun tx b d => kN b d fun sq b d => wrL (n - 1).toNat b d (acc ++ [(tx, sq)]) := by
  subst hb
  rw [show n.toNat = (n - 1).toNat + 1 by omega]
  rfl
def txOk (ws : List (ByteArray × Int)) : Prop := ∀ x ∈ ws, x.1.size ≤ 9223372036854775807
theorem txOk.snoc {ws : List (ByteArray × Int)} {x : ByteArray × Int} (h : txOk ws) (hx : x.1.size ≤ 9223372036854775807) : txOk (ws ++ [x]) := by
  intro y hy
  rcases List.mem_append.1 hy with h1 | h1
  · exact h y h1
  · rw [List.mem_singleton.1 h1]; exact hx
theorem decC_no {d d' : List UInt8} {c : CmdV} {b : Bool} (h : decAll d = (c, b, d')) (h2 : ¬ (b = false ∧ d' = [] ∧ cmdB c = true)) : decC d = none := by unfold decC; rw [h]; exact if_neg h2
theorem decC_yes {d d' : List UInt8} {c : CmdV} {b : Bool} (h : decAll d = (c, b, d')) (h1 : b = false) (h2 : d' = []) (h3 : cmdB c = true) : decC d = some c := by unfold decC; rw [h]; exact if_pos ⟨h1, h2, h3⟩

set_option maxHeartbeats 900000 in
set_option maxRecDepth 10000 in
theorem decode_spec {w : World}  {D_b : Nat → Prop} {c_b : Nat} {a_b : Option Addr} {b : List UInt8} (F_b : Sl V.Cod.byte w D_b a_b c_b b) (hD_b : ∀ k, D_b k → k < w.heap.size) (hl : b.length ≤ 140737488355328) :
    Meets Tryz.prog 65 [.slice a_b b.length c_b] w fun r w' => ∃ (ra71 : Option Addr) (rc71 : Nat), r = .tuple #[.agg #[.int .i64 (((decC b).getD cmdZ).kd), .int .i64 (((decC b).getD cmdZ).id), .int .i64 (((decC b).getD cmdZ).le), .int .i64 (((decC b).getD cmdZ).nd), .int .i64 (((decC b).getD cmdZ).ti), .int .i64 (((decC b).getD cmdZ).te), .string (((decC b).getD cmdZ).an), .int .i64 (((decC b).getD cmdZ).sw), .int .i64 (((decC b).getD cmdZ).sl), .int .i64 (((decC b).getD cmdZ).sq), .string (((decC b).getD cmdZ).fr), .string (((decC b).getD cmdZ).to), .string (((decC b).getD cmdZ).va), .bool (((decC b).getD cmdZ).go), .int .i64 (((decC b).getD cmdZ).aw), .int .i64 (((decC b).getD cmdZ).al), .int .i64 (((decC b).getD cmdZ).lw), .int .i64 (((decC b).getD cmdZ).ll), .bool (((decC b).getD cmdZ).cm), .bool (((decC b).getD cmdZ).st), .slice ra71 (((decC b).getD cmdZ).ws).length rc71, .int .i64 (((decC b).getD cmdZ).pr)], .int .i64 (if (decC b).isSome = true then 0 else 131)] ∧ V.Row V.Cod.write 78 w' V.None' w.heap.size w'.heap.size ra71 rc71 (((decC b).getD cmdZ).ws) ∧ Gr w w' := by
 have HG := V.Fr.refl [] w
 refine V.enter (n := 124) Tryz.func65 rfl rfl (by decide) rfl ?_
 refine V.sr ?_
 refine V.alloc zero41 rfl rfl rfl ?_
 rintro k1 w3 s5 s6 G4 Fk2
 have z7 := V.Fr.size G4
 try simp only [V.cellsL, V.spliceL] at Fk2
 refine V.ru 1 ?_
 refine V.nt ?_
 refine V.sr ?_
 refine V.ru 1 ?_
 replace F_b := F_b.gr G4
 refine V.call (p_open F_b (fun k hk => by have := hD_b k hk; omega) V.lenA) rfl rfl rfl ?_
 rintro _ w11 ⟨k8, rfl, ⟨h9l, h9u⟩, F10, G12⟩
 have z13 := V.Fr.size G12
 refine V.mkStruct T_ok zero168 rfl rfl rfl rfl rfl ?_
 refine V.box rfl rfl rfl rfl ?_
 rintro k14 w16 s18 s19 G17 Fk15
 have z20 := V.Fr.size G17
 try simp only [V.cellsL, V.spliceL] at Fk15
 refine V.ru 1 ?_
 refine V.nt ?_
 refine V.sr ?_
 refine V.alloc zero41 rfl rfl rfl ?_
 rintro k21 w23 s25 s26 G24 Fk22
 have z27 := V.Fr.size G24
 try simp only [V.cellsL, V.spliceL] at Fk22
 refine V.nt ?_
 refine V.sr ?_
 refine V.alloc zero3 rfl rfl rfl ?_
 rintro k28 w30 s32 s33 G31 Fk29
 have z34 := V.Fr.size G31
 try simp only [V.cellsL, V.spliceL] at Fk29
 refine V.alloc zero3 rfl rfl rfl ?_
 rintro k35 w37 s39 s40 G38 Fk36
 have z41 := V.Fr.size G38
 try simp only [V.cellsL, V.spliceL] at Fk36
 refine V.nt ?_
 refine V.seq ?_
 refine V.sr ?_
 refine V.ru 7 ?_
 refine V.mkSlice T_ok zero106 rfl rfl sz106 rfl rfl rfl rfl rfl rfl ?_
 rintro k42 w45 s47 s48 G46 Fk43
 have z49 := V.Fr.size G46
 refine V.ru 2 ?_
 refine V.nt ?_
 refine V.block ?_
 refine V.loopR 7 ?_
 refine V.rnd ?_
 refine V.sr ?_
 refine V.ru 1 ?_
 refine V.nt ?_
 refine V.seq ?_
 refine V.condY rfl rfl ?_
 refine V.skip ?_
 refine V.tN ?_
 refine V.seq ?_
 refine V.block ?_
 refine V.sr ?_
 refine V.step rfl rfl (V.elem_run T_ok rfl rfl sz106 rfl rfl (by decide) (by decide) _) ?_
 refine V.loadO T_ok Fk43 rfl rfl rfl rfl rfl ?_
 refine V.ru 1 ?_
 refine V.nt ?_
 refine V.region ?_
 refine V.ru 2 ?_
 replace F10 := F10.gr (G17.trans (G24.trans (G31.trans (G38.trans G46))))
 replace Fk15 := Fk15.gr (G24.trans (G31.trans (G38.trans G46)))
 replace Fk29 := Fk29.gr (G38.trans G46)
 refine V.call (tk_number (Ft := Fk15) (FX := F10) (Fx := Fk29) (off := 0) (hle := rfl) (n1 := by omega) (n2 := by omega) (n3 := by omega) (n4 := (by intro h; first | exact n5 h.1 | (have := h.1; have := h.2; omega))) (n5 := (by intro h; first | exact n5 h.1 | (have := h.1; have := h.2; omega)))) rfl rfl rfl ?_
 rintro _ w53 ⟨rfl, F50, F51, F52, G54⟩
 have z55 := V.Fr.size G54
 simp only [V.spliceL, V.cellsL] at F52
 refine V.nil ?_
 refine V.bN ?_
 refine V.tN ?_
 refine V.region ?_
 refine V.addN rfl rfl rfl rfl rfl V.lenA V.lenA ?_
 refine V.ru 1 ?_
 refine V.nt ?_
 refine V.rnd ?_
 refine V.seq ?_
 have z56 : w45.heap.size ≤ w53.heap.size := by omega
 try clear z55
 generalize hd1 : (rdN b 1099511627776).2 = d1 at F50
 generalize hb1 : (false || decide (¬ (rdN b 1099511627776).1.2 = 0)) = b1 at F51
 generalize hq1_0 : (rdN b 1099511627776).1.1 = q1_0 at F52
 refine V.region ?_
 refine V.ru 1 ?_
 refine V.nt ?_
 refine V.seq ?_
 refine V.condY rfl rfl ?_
 refine V.skip ?_
 refine V.tN ?_
 refine V.seq ?_
 refine V.block ?_
 refine V.sr ?_
 refine V.step rfl rfl (V.elem_run T_ok rfl rfl sz106 rfl rfl (by decide) (by decide) _) ?_
 replace Fk43 := Fk43.mS G54
 refine V.loadO T_ok Fk43 rfl rfl rfl rfl rfl ?_
 refine V.ru 1 ?_
 refine V.nt ?_
 refine V.region ?_
 refine V.ru 2 ?_
 replace Fk22 := Fk22.gr (G31.trans (G38.trans G46))
 replace Fk22 := Fk22.mS G54
 refine V.call (tk_number (Ft := F51) (FX := F50) (Fx := Fk22) (off := 1) (hle := rfl) (n1 := by omega) (n2 := by omega) (n3 := by omega) (n4 := (by intro h; first | exact n5 h.1 | (have := h.1; have := h.2; omega))) (n5 := (by intro h; first | exact n5 h.1 | (have := h.1; have := h.2; omega)))) rfl rfl rfl ?_
 rintro _ w60 ⟨rfl, F57, F58, F59, G61⟩
 have z62 := V.Fr.size G61
 simp only [V.spliceL, V.cellsL] at F59
 refine V.nil ?_
 refine V.bN ?_
 refine V.tN ?_
 refine V.region ?_
 refine V.addN rfl rfl rfl rfl rfl V.lenA V.lenA ?_
 refine V.ru 1 ?_
 refine V.nt ?_
 refine V.rnd ?_
 refine V.seq ?_
 have z63 : w53.heap.size ≤ w60.heap.size := by omega
 try clear z62
 generalize hd2 : (rdN d1 1099511627776).2 = d2 at F57
 generalize hb2 : (b1 || decide (¬ (rdN d1 1099511627776).1.2 = 0)) = b2 at F58
 generalize hq2_0 : (rdN d1 1099511627776).1.1 = q2_0 at F59
 refine V.region ?_
 refine V.ru 1 ?_
 refine V.nt ?_
 refine V.seq ?_
 refine V.condY rfl rfl ?_
 refine V.skip ?_
 refine V.tN ?_
 refine V.seq ?_
 refine V.block ?_
 refine V.sr ?_
 refine V.step rfl rfl (V.elem_run T_ok rfl rfl sz106 rfl rfl (by decide) (by decide) _) ?_
 replace Fk43 := Fk43.mS G61
 refine V.loadO T_ok Fk43 rfl rfl rfl rfl rfl ?_
 refine V.ru 1 ?_
 refine V.nt ?_
 refine V.region ?_
 refine V.ru 2 ?_
 refine V.call (tk_number (Ft := F58) (FX := F57) (Fx := F59) (off := 2) (hle := rfl) (n1 := by omega) (n2 := by omega) (n3 := by omega) (n4 := (by intro h; first | exact n5 h.1 | (have := h.1; have := h.2; omega))) (n5 := (by intro h; first | exact n5 h.1 | (have := h.1; have := h.2; omega)))) rfl rfl rfl ?_
 rintro _ w67 ⟨rfl, F64, F65, F66, G68⟩
 have z69 := V.Fr.size G68
 simp only [V.spliceL, V.cellsL] at F66
 refine V.nil ?_
 refine V.bN ?_
 refine V.tN ?_
 refine V.region ?_
 refine V.addN rfl rfl rfl rfl rfl V.lenA V.lenA ?_
 refine V.ru 1 ?_
 refine V.nt ?_
 refine V.rnd ?_
 refine V.seq ?_
 have z70 : w60.heap.size ≤ w67.heap.size := by omega
 try clear z69
 generalize hd3 : (rdN d2 1099511627776).2 = d3 at F64
 generalize hb3 : (b2 || decide (¬ (rdN d2 1099511627776).1.2 = 0)) = b3 at F65
 generalize hq3_0 : (rdN d2 1099511627776).1.1 = q3_0 at F66
 refine V.region ?_
 refine V.ru 1 ?_
 refine V.nt ?_
 refine V.seq ?_
 refine V.condY rfl rfl ?_
 refine V.skip ?_
 refine V.tN ?_
 refine V.seq ?_
 refine V.block ?_
 refine V.sr ?_
 refine V.step rfl rfl (V.elem_run T_ok rfl rfl sz106 rfl rfl (by decide) (by decide) _) ?_
 replace Fk43 := Fk43.mS G68
 refine V.loadO T_ok Fk43 rfl rfl rfl rfl rfl ?_
 refine V.ru 1 ?_
 refine V.nt ?_
 refine V.region ?_
 refine V.ru 2 ?_
 refine V.call (tk_number (Ft := F65) (FX := F64) (Fx := F66) (off := 3) (hle := rfl) (n1 := by omega) (n2 := by omega) (n3 := by omega) (n4 := (by intro h; first | exact n5 h.1 | (have := h.1; have := h.2; omega))) (n5 := (by intro h; first | exact n5 h.1 | (have := h.1; have := h.2; omega)))) rfl rfl rfl ?_
 rintro _ w74 ⟨rfl, F71, F72, F73, G75⟩
 have z76 := V.Fr.size G75
 simp only [V.spliceL, V.cellsL] at F73
 refine V.nil ?_
 refine V.bN ?_
 refine V.tN ?_
 refine V.region ?_
 refine V.addN rfl rfl rfl rfl rfl V.lenA V.lenA ?_
 refine V.ru 1 ?_
 refine V.nt ?_
 refine V.rnd ?_
 refine V.seq ?_
 have z77 : w67.heap.size ≤ w74.heap.size := by omega
 try clear z76
 generalize hd4 : (rdN d3 1099511627776).2 = d4 at F71
 generalize hb4 : (b3 || decide (¬ (rdN d3 1099511627776).1.2 = 0)) = b4 at F72
 generalize hq4_0 : (rdN d3 1099511627776).1.1 = q4_0 at F73
 refine V.region ?_
 refine V.ru 1 ?_
 refine V.nt ?_
 refine V.seq ?_
 refine V.condY rfl rfl ?_
 refine V.skip ?_
 refine V.tN ?_
 refine V.seq ?_
 refine V.block ?_
 refine V.sr ?_
 refine V.step rfl rfl (V.elem_run T_ok rfl rfl sz106 rfl rfl (by decide) (by decide) _) ?_
 replace Fk43 := Fk43.mS G75
 refine V.loadO T_ok Fk43 rfl rfl rfl rfl rfl ?_
 refine V.ru 1 ?_
 refine V.nt ?_
 refine V.region ?_
 refine V.ru 2 ?_
 refine V.call (tk_number (Ft := F72) (FX := F71) (Fx := F73) (off := 4) (hle := rfl) (n1 := by omega) (n2 := by omega) (n3 := by omega) (n4 := (by intro h; first | exact n5 h.1 | (have := h.1; have := h.2; omega))) (n5 := (by intro h; first | exact n5 h.1 | (have := h.1; have := h.2; omega)))) rfl rfl rfl ?_
 rintro _ w81 ⟨rfl, F78, F79, F80, G82⟩
 have z83 := V.Fr.size G82
 simp only [V.spliceL, V.cellsL] at F80
 refine V.nil ?_
 refine V.bN ?_
 refine V.tN ?_
 refine V.region ?_
 refine V.addN rfl rfl rfl rfl rfl V.lenA V.lenA ?_
 refine V.ru 1 ?_
 refine V.nt ?_
 refine V.rnd ?_
 refine V.seq ?_
 have z84 : w74.heap.size ≤ w81.heap.size := by omega
 try clear z83
 generalize hd5 : (rdN d4 1099511627776).2 = d5 at F78
 generalize hb5 : (b4 || decide (¬ (rdN d4 1099511627776).1.2 = 0)) = b5 at F79
 generalize hq5_0 : (rdN d4 1099511627776).1.1 = q5_0 at F80
 refine V.region ?_
 refine V.ru 1 ?_
 refine V.nt ?_
 refine V.seq ?_
 refine V.condY rfl rfl ?_
 refine V.skip ?_
 refine V.tN ?_
 refine V.seq ?_
 refine V.block ?_
 refine V.sr ?_
 refine V.step rfl rfl (V.elem_run T_ok rfl rfl sz106 rfl rfl (by decide) (by decide) _) ?_
 replace Fk43 := Fk43.mS G82
 refine V.loadO T_ok Fk43 rfl rfl rfl rfl rfl ?_
 refine V.ru 1 ?_
 refine V.nt ?_
 refine V.region ?_
 refine V.ru 2 ?_
 refine V.call (tk_number (Ft := F79) (FX := F78) (Fx := F80) (off := 5) (hle := rfl) (n1 := by omega) (n2 := by omega) (n3 := by omega) (n4 := (by intro h; first | exact n5 h.1 | (have := h.1; have := h.2; omega))) (n5 := (by intro h; first | exact n5 h.1 | (have := h.1; have := h.2; omega)))) rfl rfl rfl ?_
 rintro _ w88 ⟨rfl, F85, F86, F87, G89⟩
 have z90 := V.Fr.size G89
 simp only [V.spliceL, V.cellsL] at F87
 refine V.nil ?_
 refine V.bN ?_
 refine V.tN ?_
 refine V.region ?_
 refine V.addN rfl rfl rfl rfl rfl V.lenA V.lenA ?_
 refine V.ru 1 ?_
 refine V.nt ?_
 refine V.rnd ?_
 refine V.seq ?_
 have z91 : w81.heap.size ≤ w88.heap.size := by omega
 try clear z90
 generalize hd6 : (rdN d5 1099511627776).2 = d6 at F85
 generalize hb6 : (b5 || decide (¬ (rdN d5 1099511627776).1.2 = 0)) = b6 at F86
 generalize hq6_0 : (rdN d5 1099511627776).1.1 = q6_0 at F87
 refine V.region ?_
 refine V.ru 1 ?_
 refine V.nt ?_
 refine V.seq ?_
 refine V.condN rfl rfl ?_
 refine V.exit ?_
 refine V.tX ?_
 refine V.tX ?_
 refine V.bE ?_
 refine V.tN ?_
 refine V.sr ?_
 refine V.ru 3 ?_
 refine V.call (tk_text (Ft := F86) (FX := F85) (Fx := F87) (off := 6) (hle := rfl) (n1 := by omega) (n2 := by omega) (n3 := by omega) (n4 := (by intro h; first | exact n5 h.1 | (have := h.1; have := h.2; omega))) (n5 := (by intro h; first | exact n5 h.1 | (have := h.1; have := h.2; omega)))) rfl rfl rfl ?_
 rintro _ w95 ⟨rfl, F92, F93, F94, G96⟩
 have z97 := V.Fr.size G96
 simp only [V.spliceL, V.cellsL] at F94
 refine V.nt ?_
 refine V.seq ?_
 have z98 : w88.heap.size ≤ w95.heap.size := by omega
 try clear z97
 generalize hd7 : (rdT d6 65536).2 = d7 at F92
 generalize hb7 : (b6 || decide (¬ (rdT d6 65536).1.2 = 0)) = b7 at F93
 generalize hq7_0 : S (rdT d6 65536).1.1 = q7_0 at F94
 have hz7 := szT hq7_0
 refine V.region ?_
 refine V.ru 3 ?_
 refine V.call (tk_stamp (Ft := F93) (FX := F92) (Fx := F94) (off := 7) (hle := rfl) (n1 := by omega) (n2 := by omega) (n3 := by omega) (n4 := (by intro h; first | exact n5 h.1 | (have := h.1; have := h.2; omega))) (n5 := (by intro h; first | exact n5 h.1 | (have := h.1; have := h.2; omega)))) rfl rfl rfl ?_
 rintro _ w102 ⟨rfl, F99, F100, F101, G103⟩
 have z104 := V.Fr.size G103
 simp only [V.spliceL, V.cellsL] at F101
 refine V.nt ?_
 refine V.seq ?_
 have z105 : w95.heap.size ≤ w102.heap.size := by omega
 try clear z104
 generalize hd8 : (rdS d7).2 = d8 at F99
 generalize hb8 : (b7 || decide (¬ (rdS d7).1.2 = 0)) = b8 at F100
 generalize hq8_0 : (rdS d7).1.1.1 = q8_0 at F101
 generalize hq8_1 : (rdS d7).1.1.2 = q8_1 at F101
 refine V.region ?_
 refine V.ru 2 ?_
 refine V.call (tk_number (Ft := F100) (FX := F99) (Fx := F101) (off := 9) (hle := rfl) (n1 := by omega) (n2 := by omega) (n3 := by omega) (n4 := (by intro h; first | exact n5 h.1 | (have := h.1; have := h.2; omega))) (n5 := (by intro h; first | exact n5 h.1 | (have := h.1; have := h.2; omega)))) rfl rfl rfl ?_
 rintro _ w109 ⟨rfl, F106, F107, F108, G110⟩
 have z111 := V.Fr.size G110
 simp only [V.spliceL, V.cellsL] at F108
 refine V.nt ?_
 refine V.seq ?_
 refine V.seq ?_
 have z112 : w102.heap.size ≤ w109.heap.size := by omega
 try clear z111
 generalize hd9 : (rdN d8 1099511627776).2 = d9 at F106
 generalize hb9 : (b8 || decide (¬ (rdN d8 1099511627776).1.2 = 0)) = b9 at F107
 generalize hq9_0 : (rdN d8 1099511627776).1.1 = q9_0 at F108
 refine V.region ?_
 refine V.ru 5 ?_
 refine V.mkSlice T_ok zero114 rfl rfl sz114 rfl rfl rfl rfl rfl rfl ?_
 rintro k113 w116 s118 s119 G117 Fk114
 have z120 := V.Fr.size G117
 refine V.ru 2 ?_
 refine V.nt ?_
 refine V.block ?_
 refine V.loopR 4 ?_
 refine V.rnd ?_
 refine V.sr ?_
 refine V.ru 1 ?_
 refine V.nt ?_
 refine V.seq ?_
 refine V.condY rfl rfl ?_
 refine V.skip ?_
 refine V.tN ?_
 refine V.seq ?_
 refine V.block ?_
 refine V.sr ?_
 refine V.step rfl rfl (V.elem_run T_ok rfl rfl sz114 rfl rfl (by decide) (by decide) _) ?_
 refine V.loadO T_ok Fk114 rfl rfl rfl rfl rfl ?_
 refine V.ru 1 ?_
 refine V.nt ?_
 refine V.region ?_
 refine V.ru 2 ?_
 replace F106 := F106.gr G117
 replace F107 := F107.gr G117
 replace F108 := F108.gr G117
 refine V.call (tk_text (Ft := F107) (FX := F106) (Fx := F108) (off := 10) (hle := rfl) (n1 := by omega) (n2 := by omega) (n3 := by omega) (n4 := (by intro h; first | exact n5 h.1 | (have := h.1; have := h.2; omega))) (n5 := (by intro h; first | exact n5 h.1 | (have := h.1; have := h.2; omega)))) rfl rfl rfl ?_
 rintro _ w124 ⟨rfl, F121, F122, F123, G125⟩
 have z126 := V.Fr.size G125
 simp only [V.spliceL, V.cellsL] at F123
 refine V.nil ?_
 refine V.bN ?_
 refine V.tN ?_
 refine V.region ?_
 refine V.addN rfl rfl rfl rfl rfl V.lenA V.lenA ?_
 refine V.ru 1 ?_
 refine V.nt ?_
 refine V.rnd ?_
 refine V.seq ?_
 have z127 : w116.heap.size ≤ w124.heap.size := by omega
 try clear z126
 generalize hd10 : (rdT d9 65536).2 = d10 at F121
 generalize hb10 : (b9 || decide (¬ (rdT d9 65536).1.2 = 0)) = b10 at F122
 generalize hq10_0 : S (rdT d9 65536).1.1 = q10_0 at F123
 have hz10 := szT hq10_0
 refine V.region ?_
 refine V.ru 1 ?_
 refine V.nt ?_
 refine V.seq ?_
 refine V.condY rfl rfl ?_
 refine V.skip ?_
 refine V.tN ?_
 refine V.seq ?_
 refine V.block ?_
 refine V.sr ?_
 refine V.step rfl rfl (V.elem_run T_ok rfl rfl sz114 rfl rfl (by decide) (by decide) _) ?_
 replace Fk114 := Fk114.mS G125
 refine V.loadO T_ok Fk114 rfl rfl rfl rfl rfl ?_
 refine V.ru 1 ?_
 refine V.nt ?_
 refine V.region ?_
 refine V.ru 2 ?_
 refine V.call (tk_text (Ft := F122) (FX := F121) (Fx := F123) (off := 11) (hle := rfl) (n1 := by omega) (n2 := by omega) (n3 := by omega) (n4 := (by intro h; first | exact n5 h.1 | (have := h.1; have := h.2; omega))) (n5 := (by intro h; first | exact n5 h.1 | (have := h.1; have := h.2; omega)))) rfl rfl rfl ?_
 rintro _ w131 ⟨rfl, F128, F129, F130, G132⟩
 have z133 := V.Fr.size G132
 simp only [V.spliceL, V.cellsL] at F130
 refine V.nil ?_
 refine V.bN ?_
 refine V.tN ?_
 refine V.region ?_
 refine V.addN rfl rfl rfl rfl rfl V.lenA V.lenA ?_
 refine V.ru 1 ?_
 refine V.nt ?_
 refine V.rnd ?_
 refine V.seq ?_
 have z134 : w124.heap.size ≤ w131.heap.size := by omega
 try clear z133
 generalize hd11 : (rdT d10 65536).2 = d11 at F128
 generalize hb11 : (b10 || decide (¬ (rdT d10 65536).1.2 = 0)) = b11 at F129
 generalize hq11_0 : S (rdT d10 65536).1.1 = q11_0 at F130
 have hz11 := szT hq11_0
 refine V.region ?_
 refine V.ru 1 ?_
 refine V.nt ?_
 refine V.seq ?_
 refine V.condY rfl rfl ?_
 refine V.skip ?_
 refine V.tN ?_
 refine V.seq ?_
 refine V.block ?_
 refine V.sr ?_
 refine V.step rfl rfl (V.elem_run T_ok rfl rfl sz114 rfl rfl (by decide) (by decide) _) ?_
 replace Fk114 := Fk114.mS G132
 refine V.loadO T_ok Fk114 rfl rfl rfl rfl rfl ?_
 refine V.ru 1 ?_
 refine V.nt ?_
 refine V.region ?_
 refine V.ru 2 ?_
 refine V.call (tk_text (Ft := F129) (FX := F128) (Fx := F130) (off := 12) (hle := rfl) (n1 := by omega) (n2 := by omega) (n3 := by omega) (n4 := (by intro h; first | exact n5 h.1 | (have := h.1; have := h.2; omega))) (n5 := (by intro h; first | exact n5 h.1 | (have := h.1; have := h.2; omega)))) rfl rfl rfl ?_
 rintro _ w138 ⟨rfl, F135, F136, F137, G139⟩
 have z140 := V.Fr.size G139
 simp only [V.spliceL, V.cellsL] at F137
 refine V.nil ?_
 refine V.bN ?_
 refine V.tN ?_
 refine V.region ?_
 refine V.addN rfl rfl rfl rfl rfl V.lenA V.lenA ?_
 refine V.ru 1 ?_
 refine V.nt ?_
 refine V.rnd ?_
 refine V.seq ?_
 have z141 : w131.heap.size ≤ w138.heap.size := by omega
 try clear z140
 generalize hd12 : (rdT d11 65536).2 = d12 at F135
 generalize hb12 : (b11 || decide (¬ (rdT d11 65536).1.2 = 0)) = b12 at F136
 generalize hq12_0 : S (rdT d11 65536).1.1 = q12_0 at F137
 have hz12 := szT hq12_0
 refine V.region ?_
 refine V.ru 1 ?_
 refine V.nt ?_
 refine V.seq ?_
 refine V.condN rfl rfl ?_
 refine V.exit ?_
 refine V.tX ?_
 refine V.tX ?_
 refine V.bE ?_
 refine V.tN ?_
 refine V.sr ?_
 refine V.ru 2 ?_
 refine V.call (tk_flag (Ft := F136) (FX := F135) (Fx := F137) (off := 13) (hle := rfl) (n1 := by omega) (n2 := by omega) (n3 := by omega) (n4 := (by intro h; first | exact n5 h.1 | (have := h.1; have := h.2; omega))) (n5 := (by intro h; first | exact n5 h.1 | (have := h.1; have := h.2; omega)))) rfl rfl rfl ?_
 rintro _ w145 ⟨rfl, F142, F143, F144, G146⟩
 have z147 := V.Fr.size G146
 simp only [V.spliceL, V.cellsL] at F144
 refine V.nt ?_
 refine V.seq ?_
 have z148 : w138.heap.size ≤ w145.heap.size := by omega
 try clear z147
 generalize hd13 : (rdF d12).2 = d13 at F142
 generalize hb13 : (b12 || decide (¬ (rdF d12).1.2 = 0)) = b13 at F143
 generalize hq13_0 : (rdF d12).1.1 = q13_0 at F144
 refine V.region ?_
 refine V.ru 2 ?_
 refine V.call (tk_stamp (Ft := F143) (FX := F142) (Fx := F144) (off := 14) (hle := rfl) (n1 := by omega) (n2 := by omega) (n3 := by omega) (n4 := (by intro h; first | exact n5 h.1 | (have := h.1; have := h.2; omega))) (n5 := (by intro h; first | exact n5 h.1 | (have := h.1; have := h.2; omega)))) rfl rfl rfl ?_
 rintro _ w152 ⟨rfl, F149, F150, F151, G153⟩
 have z154 := V.Fr.size G153
 simp only [V.spliceL, V.cellsL] at F151
 refine V.nt ?_
 refine V.seq ?_
 have z155 : w145.heap.size ≤ w152.heap.size := by omega
 try clear z154
 generalize hd14 : (rdS d13).2 = d14 at F149
 generalize hb14 : (b13 || decide (¬ (rdS d13).1.2 = 0)) = b14 at F150
 generalize hq14_0 : (rdS d13).1.1.1 = q14_0 at F151
 generalize hq14_1 : (rdS d13).1.1.2 = q14_1 at F151
 refine V.region ?_
 refine V.ru 2 ?_
 refine V.call (tk_stamp (Ft := F150) (FX := F149) (Fx := F151) (off := 16) (hle := rfl) (n1 := by omega) (n2 := by omega) (n3 := by omega) (n4 := (by intro h; first | exact n5 h.1 | (have := h.1; have := h.2; omega))) (n5 := (by intro h; first | exact n5 h.1 | (have := h.1; have := h.2; omega)))) rfl rfl rfl ?_
 rintro _ w159 ⟨rfl, F156, F157, F158, G160⟩
 have z161 := V.Fr.size G160
 simp only [V.spliceL, V.cellsL] at F158
 refine V.nt ?_
 refine V.seq ?_
 have z162 : w152.heap.size ≤ w159.heap.size := by omega
 try clear z161
 generalize hd15 : (rdS d14).2 = d15 at F156
 generalize hb15 : (b14 || decide (¬ (rdS d14).1.2 = 0)) = b15 at F157
 generalize hq15_0 : (rdS d14).1.1.1 = q15_0 at F158
 generalize hq15_1 : (rdS d14).1.1.2 = q15_1 at F158
 refine V.region ?_
 refine V.ru 2 ?_
 refine V.call (tk_flag (Ft := F157) (FX := F156) (Fx := F158) (off := 18) (hle := rfl) (n1 := by omega) (n2 := by omega) (n3 := by omega) (n4 := (by intro h; first | exact n5 h.1 | (have := h.1; have := h.2; omega))) (n5 := (by intro h; first | exact n5 h.1 | (have := h.1; have := h.2; omega)))) rfl rfl rfl ?_
 rintro _ w166 ⟨rfl, F163, F164, F165, G167⟩
 have z168 := V.Fr.size G167
 simp only [V.spliceL, V.cellsL] at F165
 refine V.nt ?_
 refine V.seq ?_
 have z169 : w159.heap.size ≤ w166.heap.size := by omega
 try clear z168
 generalize hd16 : (rdF d15).2 = d16 at F163
 generalize hb16 : (b15 || decide (¬ (rdF d15).1.2 = 0)) = b16 at F164
 generalize hq16_0 : (rdF d15).1.1 = q16_0 at F165
 refine V.region ?_
 refine V.ru 2 ?_
 refine V.call (tk_flag (Ft := F164) (FX := F163) (Fx := F165) (off := 19) (hle := rfl) (n1 := by omega) (n2 := by omega) (n3 := by omega) (n4 := (by intro h; first | exact n5 h.1 | (have := h.1; have := h.2; omega))) (n5 := (by intro h; first | exact n5 h.1 | (have := h.1; have := h.2; omega)))) rfl rfl rfl ?_
 rintro _ w173 ⟨rfl, F170, F171, F172, G174⟩
 have z175 := V.Fr.size G174
 simp only [V.spliceL, V.cellsL] at F172
 refine V.nt ?_
 refine V.seq ?_
 refine V.seq ?_
 have z176 : w166.heap.size ≤ w173.heap.size := by omega
 try clear z175
 generalize hd17 : (rdF d16).2 = d17 at F170
 generalize hb17 : (b16 || decide (¬ (rdF d16).1.2 = 0)) = b17 at F171
 generalize hq17_0 : (rdF d16).1.1 = q17_0 at F172
 refine V.region ?_
 refine V.ru 1 ?_
 replace Fk36 := Fk36.gr G46
 replace Fk36 := Fk36.mS G54
 replace Fk36 := Fk36.mS G61
 replace Fk36 := Fk36.mS G68
 replace Fk36 := Fk36.mS G75
 replace Fk36 := Fk36.mS G82
 replace Fk36 := Fk36.mS G89
 replace Fk36 := Fk36.mS G96
 replace Fk36 := Fk36.mS G103
 replace Fk36 := Fk36.mS G110
 replace Fk36 := Fk36.gr G117
 replace Fk36 := Fk36.mS G125
 replace Fk36 := Fk36.mS G132
 replace Fk36 := Fk36.mS G139
 replace Fk36 := Fk36.mS G146
 replace Fk36 := Fk36.mS G153
 replace Fk36 := Fk36.mS G160
 replace Fk36 := Fk36.mS G167
 replace Fk36 := Fk36.mS G174
 refine V.call (tk_number (Ft := F171) (FX := F170) (Fx := Fk36) (off := 0) (hle := rfl) (n1 := by omega) (n2 := by omega) (n3 := by omega) (n4 := (by intro h; first | exact n5 h.1 | (have := h.1; have := h.2; omega))) (n5 := (by intro h; first | exact n5 h.1 | (have := h.1; have := h.2; omega)))) rfl rfl rfl ?_
 rintro _ w180 ⟨rfl, F177, F178, F179, G181⟩
 have z182 := V.Fr.size G181
 simp only [V.spliceL, V.cellsL] at F179
 refine V.nt ?_
 refine V.block ?_
 have z183 : w173.heap.size ≤ w180.heap.size := by omega
 try clear z182
 generalize hd18 : (rdN d17 1099511627776).2 = d18 at F177
 generalize hb18 : (b17 || decide (¬ (rdN d17 1099511627776).1.2 = 0)) = b18 at F178
 generalize hq18_0 : (rdN d17 1099511627776).1.1 = q18_0 at F179
 have hR : decAll b = decEnd q1_0 q2_0 q3_0 q4_0 q5_0 q6_0 q7_0 q8_0 q8_1 q9_0 q10_0 q11_0 q12_0 q13_0 q14_0 q14_1 q15_0 q15_1 q16_0 q17_0 (wrL q18_0.toNat b18 d18 []) := by
  unfold decAll; rw [kN_eq hq1_0 hb1 hd1, kN_eq hq2_0 hb2 hd2, kN_eq hq3_0 hb3 hd3, kN_eq hq4_0 hb4 hd4, kN_eq hq5_0 hb5 hd5, kN_eq hq6_0 hb6 hd6, kT_eq hq7_0 hb7 hd7, kS_eq hq8_0 hq8_1 hb8 hd8, kN_eq hq9_0 hb9 hd9, kT_eq hq10_0 hb10 hd10, kT_eq hq11_0 hb11 hd11, kT_eq hq12_0 hb12 hd12, kF_eq hq13_0 hb13 hd13, kS_eq hq14_0 hq14_1 hb14 hd14, kS_eq hq15_0 hq15_1 hb15 hd15, kF_eq hq16_0 hb16 hd16, kF_eq hq17_0 hb17 hd17, kN_eq hq18_0 hb18 hd18]
 have hrn := rngN hq18_0
 clear hq1_0
 clear hb1
 clear hd1
 clear hq2_0
 clear hb2
 clear hd2
 clear hq3_0
 clear hb3
 clear hd3
 clear hq4_0
 clear hb4
 clear hd4
 clear hq5_0
 clear hb5
 clear hd5
 clear hq6_0
 clear hb6
 clear hd6
 clear hq7_0
 clear hb7
 clear hd7
 clear hq8_0
 clear hq8_1
 clear hb8
 clear hd8
 clear hq9_0
 clear hb9
 clear hd9
 clear hq10_0
 clear hb10
 clear hd10
 clear hq11_0
 clear hb11
 clear hd11
 clear hq12_0
 clear hb12
 clear hd12
 clear hq13_0
 clear hb13
 clear hd13
 clear hq14_0
 clear hq14_1
 clear hb14
 clear hd14
 clear hq15_0
 clear hq15_1
 clear hb15
 clear hd15
 clear hq16_0
 clear hb16
 clear hd16
 clear hq17_0
 clear hb17
 clear hd17
 clear hq18_0
 clear hb18
 clear hd18
 replace F_b := F_b.gr (G12.trans (G17.trans (G24.trans (G31.trans (G38.trans G46)))))
 replace F_b := F_b.mSb G54 hD_b
 replace F_b := F_b.mSb G61 hD_b
 replace F_b := F_b.mSb G68 hD_b
 replace F_b := F_b.mSb G75 hD_b
 replace F_b := F_b.mSb G82 hD_b
 replace F_b := F_b.mSb G89 hD_b
 replace F_b := F_b.mSb G96 hD_b
 replace F_b := F_b.mSb G103 hD_b
 replace F_b := F_b.mSb G110 hD_b
 replace F_b := F_b.gr G117
 replace F_b := F_b.mSb G125 hD_b
 replace F_b := F_b.mSb G132 hD_b
 replace F_b := F_b.mSb G139 hD_b
 replace F_b := F_b.mSb G146 hD_b
 replace F_b := F_b.mSb G153 hD_b
 replace F_b := F_b.mSb G160 hD_b
 replace F_b := F_b.mSb G167 hD_b
 replace F_b := F_b.mSb G174 hD_b
 replace F_b := F_b.mSb G181 hD_b
 replace Fk2 := Fk2.gr (G12.trans (G17.trans (G24.trans (G31.trans (G38.trans G46)))))
 replace Fk2 := Fk2.mS G54
 replace Fk2 := Fk2.mS G61
 replace Fk2 := Fk2.mS G68
 replace Fk2 := Fk2.mS G75
 replace Fk2 := Fk2.mS G82
 replace Fk2 := Fk2.mS G89
 replace Fk2 := Fk2.mS G96
 replace Fk2 := Fk2.mS G103
 replace Fk2 := Fk2.mS G110
 replace Fk2 := Fk2.gr G117
 replace Fk2 := Fk2.mS G125
 replace Fk2 := Fk2.mS G132
 replace Fk2 := Fk2.mS G139
 replace Fk2 := Fk2.mS G146
 replace Fk2 := Fk2.mS G153
 replace Fk2 := Fk2.mS G160
 replace Fk2 := Fk2.mS G167
 replace Fk2 := Fk2.mS G174
 replace Fk2 := Fk2.mS G181
 replace Fk43 := Fk43.mS G89
 replace Fk43 := Fk43.mS G96
 replace Fk43 := Fk43.mS G103
 replace Fk43 := Fk43.mS G110
 replace Fk43 := Fk43.gr G117
 replace Fk43 := Fk43.mS G125
 replace Fk43 := Fk43.mS G132
 replace Fk43 := Fk43.mS G139
 replace Fk43 := Fk43.mS G146
 replace Fk43 := Fk43.mS G153
 replace Fk43 := Fk43.mS G160
 replace Fk43 := Fk43.mS G167
 replace Fk43 := Fk43.mS G174
 replace Fk43 := Fk43.mS G181
 replace F52 := F52.mS G61
 replace F52 := F52.mS G68
 replace F52 := F52.mS G75
 replace F52 := F52.mS G82
 replace F52 := F52.mS G89
 replace F52 := F52.mS G96
 replace F52 := F52.mS G103
 replace F52 := F52.mS G110
 replace F52 := F52.gr G117
 replace F52 := F52.mS G125
 replace F52 := F52.mS G132
 replace F52 := F52.mS G139
 replace F52 := F52.mS G146
 replace F52 := F52.mS G153
 replace F52 := F52.mS G160
 replace F52 := F52.mS G167
 replace F52 := F52.mS G174
 replace F52 := F52.mS G181
 replace Fk114 := Fk114.mS G139
 replace Fk114 := Fk114.mS G146
 replace Fk114 := Fk114.mS G153
 replace Fk114 := Fk114.mS G160
 replace Fk114 := Fk114.mS G167
 replace Fk114 := Fk114.mS G174
 replace Fk114 := Fk114.mS G181
 replace F172 := F172.mS G181
 replace HG := HG.grow (G4.trans (G12.trans (G17.trans (G24.trans (G31.trans (G38.trans G46))))))
 replace HG := HG.nS G54
 replace HG := HG.nS G61
 replace HG := HG.nS G68
 replace HG := HG.nS G75
 replace HG := HG.nS G82
 replace HG := HG.nS G89
 replace HG := HG.nS G96
 replace HG := HG.nS G103
 replace HG := HG.nS G110
 replace HG := HG.grow G117
 replace HG := HG.nS G125
 replace HG := HG.nS G132
 replace HG := HG.nS G139
 replace HG := HG.nS G146
 replace HG := HG.nS G153
 replace HG := HG.nS G160
 replace HG := HG.nS G167
 replace HG := HG.nS G174
 replace HG := HG.nS G181
 refine V.loopM (fun m e v185 => Fr [] w v185 ∧ w180.heap.size ≤ v185.heap.size ∧ Sl V.Cod.byte v185 D_b a_b c_b b ∧ Cells v185 k1 [.int .i64 0, .int .i64 0, .int .i64 0, .int .i64 0, .int .i64 0, .int .i64 0, .string ByteArray.empty, .int .i64 0, .int .i64 0, .int .i64 0, .string ByteArray.empty, .string ByteArray.empty, .string ByteArray.empty, .bool false, .int .i64 0, .int .i64 0, .int .i64 0, .int .i64 0, .bool false, .bool false, .slice none 0 0, .int .i64 0] 41 ∧ Cells v185 k42 [.pointer (some ⟨k28, 0, none⟩), .pointer (some ⟨k21, 1, none⟩), .pointer (some ⟨k21, 2, none⟩), .pointer (some ⟨k21, 3, none⟩), .pointer (some ⟨k21, 4, none⟩), .pointer (some ⟨k21, 5, none⟩)] 106 ∧ Cells v185 k28 [.int .i64 q1_0] 3 ∧ Cells v185 k113 [.pointer (some ⟨k21, 10, none⟩), .pointer (some ⟨k21, 11, none⟩), .pointer (some ⟨k21, 12, none⟩)] 114 ∧ ∃ (wr : Int) (bd : Bool) (cur : List UInt8) (acc : List (ByteArray × Int)) (ra9 : Option Addr) (rc9 : Nat), m = wr.toNat ∧ 0 ≤ wr ∧ wr ≤ 1099511627776 ∧ wrL wr.toNat bd cur acc = wrL q18_0.toNat b18 d18 [] ∧ (acc.length : Int) + wr ≤ 1099511627776 ∧ txOk acc ∧ Cells v185 k21 [.int .i64 0, .int .i64 q2_0, .int .i64 q3_0, .int .i64 q4_0, .int .i64 q5_0, .int .i64 q6_0, .string q7_0, .int .i64 q8_0, .int .i64 q8_1, .int .i64 q9_0, .string q10_0, .string q11_0, .string q12_0, .bool q13_0, .int .i64 q14_0, .int .i64 q14_1, .int .i64 q15_0, .int .i64 q15_1, .bool q16_0, .bool q17_0, .slice ra9 acc.length rc9, .int .i64 0] 41 ∧ V.Row V.Cod.write 78 v185 V.None' w180.heap.size v185.heap.size ra9 rc9 acc ∧ Rd v185 k8 (fun j => w3.heap.size ≤ j ∧ j < k8) cur ∧ Cells v185 k14 [.pointer (some ⟨k8, 0, none⟩), .bool bd] 168 ∧ Cells v185 k35 [.int .i64 wr] 3 ∧ e 2 = .pointer (some ⟨k1, 0, none⟩) ∧ e 4 = .pointer (some ⟨k14, 0, none⟩) ∧ e 5 = .pointer (some ⟨k21, 0, none⟩) ∧ e 6 = .pointer (some ⟨k28, 0, none⟩) ∧ e 7 = .pointer (some ⟨k35, 0, none⟩)) ?_ ?_
 ·
  exact ⟨_, HG, (by omega), F_b, Fk2, Fk43, F52, Fk114, (q18_0), (b18), (d18), ([]), _, _, rfl, (by omega), (by omega), (rfl), (by simp; omega), (by intro y hy; cases hy), F172, V.Row.nil, F177, F178, F179, rfl, rfl, rfl, rfl, rfl⟩
 try clear F172
 clear HG F_b Fk2 Fk43 F52 Fk114 F177 F178 F179
 rintro _ e v185 ⟨HG, z186, F_b, Fk2, Fk43, F52, Fk114, wr, bd, cur, acc, ra9, rc9, rfl, hw0, hw1, hinv, hal, htx, rFk9, rF9, F177, F178, F179, he2_2, he2_4, he2_5, he2_6, he2_7⟩
 refine V.knownC (t := 2) he2_2 ?_
 refine V.knownC (t := 4) he2_4 ?_
 refine V.knownC (t := 5) he2_5 ?_
 refine V.knownC (t := 6) he2_6 ?_
 refine V.knownC (t := 7) he2_7 ?_
 refine V.seq ?_
 refine V.sr ?_
 refine V.loadO T_ok F179 rfl rfl rfl rfl rfl ?_
 refine V.ru 2 ?_
 refine V.split (j := 2) (t := 79) rfl rfl (fun g23_2 => ?_) (fun g23_2 => ?_)
 ·
  try replace g23_2 := V.dec g23_2
  try simp only [V.mk] at g23_2
  refine V.ru 3 ?_
  refine V.yes rfl rfl rfl ?_
  refine V.loadO T_ok F178 rfl rfl rfl rfl rfl ?_
  refine V.ru 2 ?_
  refine V.nt ?_
  refine V.condT rfl (fun h23 => ?_) (fun h23 => ?_)
  ·
   try replace h23 := V.dec h23
   try simp only [V.mk] at h23
   refine V.skip ?_
   refine V.tN ?_
   refine V.seq ?_
   refine V.block ?_
   refine V.sr ?_
   refine V.alloc zero78 rfl rfl rfl ?_
   rintro k187 w189 s191 s192 G190 Fk188
   have z193 := V.Fr.size G190
   try simp only [V.cellsL, V.spliceL] at Fk188
   refine V.nt ?_
   refine V.sr ?_
   refine V.ru 2 ?_
   replace F177 := F177.gr G190
   replace F178 := F178.gr G190
   refine V.call (tk_text (Ft := F178) (FX := F177) (Fx := Fk188) (off := 0) (hle := rfl) (n1 := by omega) (n2 := by omega) (n3 := by omega) (n4 := (by intro h; first | exact n5 h.1 | (have := h.1; have := h.2; omega))) (n5 := (by intro h; first | exact n5 h.1 | (have := h.1; have := h.2; omega)))) rfl rfl rfl ?_
   rintro _ w197 ⟨rfl, F194, F195, F196, G198⟩
   have z199 := V.Fr.size G198
   simp only [V.spliceL, V.cellsL] at F196
   refine V.nt ?_
   refine V.sr ?_
   refine V.ru 2 ?_
   refine V.call (tk_number (Ft := F195) (FX := F194) (Fx := F196) (off := 1) (hle := rfl) (n1 := by omega) (n2 := by omega) (n3 := by omega) (n4 := (by intro h; first | exact n5 h.1 | (have := h.1; have := h.2; omega))) (n5 := (by intro h; first | exact n5 h.1 | (have := h.1; have := h.2; omega)))) rfl rfl rfl ?_
   rintro _ w203 ⟨rfl, F200, F201, F202, G204⟩
   have z205 := V.Fr.size G204
   simp only [V.spliceL, V.cellsL] at F202
   refine V.nt ?_
   refine V.region ?_
   refine V.ru 1 ?_
   replace rFk9 := rFk9.gr G190
   replace rFk9 := rFk9.mS G198
   replace rFk9 := rFk9.mS G204
   refine V.loadO T_ok rFk9 rfl rfl rfl rfl rfl ?_
   refine V.loadO T_ok F202 rfl rfl rfl rfl rfl ?_
   refine V.mkSlice T_ok zero78 rfl rfl sz78 rfl rfl rfl rfl rfl rfl ?_
   rintro k206 w209 s211 s212 G210 Fk207
   have z213 := V.Fr.size G210
   have F208 := V.rowOfC (xs := ([(S (rdT cur 65536).1.1, (rdN ((rdT cur 65536).2) 1099511627776).1.1)] : List (ByteArray × Int))) Fk207 (C := V.Cod.write) (V.reps_cons (x := (S (rdT cur 65536).1.1, (rdN ((rdT cur 65536).2) 1099511627776).1.1)) ⟨_, _, rfl, rfl, rfl⟩ rfl rfl) rfl
   clear Fk207
   replace rF9 := rF9.gr G190
   replace rF9 := rF9.mS G198
   replace rF9 := rF9.mS G204
   replace rF9 := rF9.gr G210
   refine V.appendR (rF9) (V.From.flat V.flat_write (D' := V.None') (F208.sl.from Tryz.underlying39)) elT39_39 rfl rfl rfl rfl rfl V.lenA (by unfold maxLen; first | omega | (simp only [List.length_take, List.length_drop, List.length_append, List.length_cons, List.length_nil, List.length_replicate, List.length_set, V.length_data, V.S_size]; omega)) (by omega) (by omega) (fun _ h => h.elim) (fun _ h => h.elim) ?_
   rintro a214 c215 w217 G218 s219 F216
   clear rF9
   clear F208
   have z220 := Go.RowKit.Below.size G218
   refine V.ru 1 ?_
   replace rFk9 := rFk9.gr G210
   replace rFk9 := V.Cells.bl rFk9 G218 (by first | assumption | omega)
   refine V.storeO rFk9 rfl rfl rfl rfl sz39 rfl rfl rfl rfl ?_
   rintro w221 G222 z224 Fs223
   clear rFk9
   have z225 := V.Fr.size G222
   have rFk9 := Fs223; clear Fs223
   simp only [V.spliceL, V.cellsL] at rFk9
   refine V.nil ?_
   refine V.bN ?_
   refine V.tN ?_
   refine V.region ?_
   replace F179 := F179.gr G190
   replace F179 := F179.mS G198
   replace F179 := F179.mS G204
   replace F179 := F179.gr G210
   replace F179 := V.Cells.bl F179 G218 (by first | assumption | omega)
   replace F179 := F179.ma G222
   refine V.loadO T_ok F179 rfl rfl rfl rfl rfl ?_
   refine V.subN rfl rfl rfl rfl rfl V.lenA V.lenA ?_
   refine V.storeO F179 rfl rfl rfl rfl sz3 rfl rfl rfl rfl ?_
   rintro w226 G227 z229 Fs228
   clear F179
   have z230 := V.Fr.size G227
   have F179 := Fs228; clear Fs228
   simp only [V.spliceL, V.cellsL] at F179
   refine V.nt ?_
   replace F_b := F_b.gr G190
   replace F_b := F_b.mSb G198 hD_b
   replace F_b := F_b.mSb G204 hD_b
   replace F_b := F_b.gr G210
   replace F_b := V.Sl.bl F_b G218 (by first | exact (fun _ h => by have := h.2; omega) | (intro k h; have := hD_b k h; omega))
   replace F_b := F_b.mb G222 hD_b
   replace F_b := F_b.mb G227 hD_b
   replace Fk2 := Fk2.gr G190
   replace Fk2 := Fk2.mS G198
   replace Fk2 := Fk2.mS G204
   replace Fk2 := Fk2.gr G210
   replace Fk2 := V.Cells.bl Fk2 G218 (by first | assumption | omega)
   replace Fk2 := Fk2.ma G222
   replace Fk2 := Fk2.ma G227
   replace Fk43 := Fk43.gr G190
   replace Fk43 := Fk43.mS G198
   replace Fk43 := Fk43.mS G204
   replace Fk43 := Fk43.gr G210
   replace Fk43 := V.Cells.bl Fk43 G218 (by first | assumption | omega)
   replace Fk43 := Fk43.ma G222
   replace Fk43 := Fk43.ma G227
   replace F52 := F52.gr G190
   replace F52 := F52.mS G198
   replace F52 := F52.mS G204
   replace F52 := F52.gr G210
   replace F52 := V.Cells.bl F52 G218 (by first | assumption | omega)
   replace F52 := F52.ma G222
   replace F52 := F52.ma G227
   replace Fk114 := Fk114.gr G190
   replace Fk114 := Fk114.mS G198
   replace Fk114 := Fk114.mS G204
   replace Fk114 := Fk114.gr G210
   replace Fk114 := V.Cells.bl Fk114 G218 (by first | assumption | omega)
   replace Fk114 := Fk114.ma G222
   replace Fk114 := Fk114.ma G227
   replace F200 := F200.gr G210
   replace F200 := F200.bl G218 (by first | exact ⟨by omega, fun j h => by have := h.2; omega⟩ | (first | omega | exact fun h => h | exact ⟨by omega, fun h => h⟩ | (intro h; first | (have := hD_b _ h; omega)) | (refine ⟨by omega, ?_⟩; intro h; first | (have := hD_b _ h; omega))))
   replace F200 := F200.ma G222
   replace F200 := F200.ma G227
   replace F201 := F201.gr G210
   replace F201 := V.Cells.bl F201 G218 (by first | assumption | omega)
   replace F201 := F201.ma G222
   replace F201 := F201.ma G227
   replace F216 := F216.ma G222
   replace F216 := F216.ma G227
   replace rFk9 := rFk9.ma G227
   replace HG := HG.grow G190
   replace HG := HG.nS G198
   replace HG := HG.nS G204
   replace HG := HG.grow G210
   replace HG := HG.bl (Go.RowKit.Below.mono G218 (by first | assumption | omega))
   replace HG := HG.n1 G222
   replace HG := HG.n1 G227
   exact ⟨_, (by omega), HG, (by omega), F_b, Fk2, Fk43, F52, Fk114, (wr - 1), ((bd || decide (¬ (rdT cur 65536).1.2 = 0)) || decide (¬ (rdN ((rdT cur 65536).2) 1099511627776).1.2 = 0)), ((rdN ((rdT cur 65536).2) 1099511627776).2), (acc ++ ([(S (rdT cur 65536).1.1, (rdN ((rdT cur 65536).2) 1099511627776).1.1)] : List (ByteArray × Int))), _, _, rfl, (by omega), (by omega), ((wrL_succ g23_2 h23).symm.trans hinv), (by rw [List.length_append]; simp; omega), (htx.snoc (szT rfl)), rFk9, F216.re, F200, F201, F179, rfl, rfl, rfl, rfl, rfl⟩
  ·
   try replace h23 := V.dec h23
   try simp only [V.mk] at h23
   refine V.exit ?_
   refine V.tX ?_
   refine V.tX ?_
   refine V.bE ?_
   refine V.tN ?_
   refine V.sr ?_
   refine V.ru 2 ?_
   refine V.call (tk_number (Ft := F178) (FX := F177) (Fx := rFk9) (off := 21) (hle := rfl) (n1 := by omega) (n2 := by omega) (n3 := by omega) (n4 := (by intro h; first | exact n5 h.1 | (have := h.1; have := h.2; omega))) (n5 := (by intro h; first | exact n5 h.1 | (have := h.1; have := h.2; omega)))) rfl rfl rfl ?_
   rintro _ w234 ⟨rfl, F231, F232, F233, G235⟩
   have z236 := V.Fr.size G235
   simp only [V.spliceL, V.cellsL] at F233
   refine V.nt ?_
   refine V.seq ?_
   refine V.seq ?_
   have hR2 : decAll b = ((⟨q1_0, q2_0, q3_0, q4_0, q5_0, q6_0, q7_0, q8_0, q8_1, q9_0, q10_0, q11_0, q12_0, q13_0, q14_0, q14_1, q15_0, q15_1, q16_0, q17_0, acc, (rdN cur 1099511627776).1.1⟩ : CmdV), bd || decide (¬ (rdN cur 1099511627776).1.2 = 0), (rdN cur 1099511627776).2) := by
    rw [hR, ← hinv, wrL_end (by intro hq; first | exact g23_2 hq.1 | (have := hq.1; omega) | exact h23 hq.2 | (rw [hq.2] at h23; cases h23))]; rfl
   clear hR hinv
   generalize (rdN cur 1099511627776).1.1 = pr at F233 hR2
   generalize (bd || decide (¬ (rdN cur 1099511627776).1.2 = 0)) = bE at F232 hR2
   generalize (rdN cur 1099511627776).2 = dE at F231 hR2
   refine V.region ?_
   replace F52 := F52.mS G235
   refine V.loadO T_ok F52 rfl rfl rfl rfl rfl ?_
   refine V.ru 1 ?_
   refine V.storeO F233 rfl rfl rfl rfl sz34 rfl rfl rfl rfl ?_
   rintro w237 G238 z240 Fs239
   clear F233
   have z241 := V.Fr.size G238
   have F233 := Fs239; clear Fs239
   simp only [V.spliceL, V.cellsL] at F233
   refine V.nt ?_
   refine V.sr ?_
   refine V.ru 3 ?_
   replace F232 := F232.ma G238
   refine V.loadO T_ok F232 rfl rfl rfl rfl rfl ?_
   refine V.ru 1 ?_
   refine V.split (j := 4) (t := 109) rfl rfl (fun g31_4 => ?_) (fun g31_4 => ?_)
   ·
    try replace g31_4 := V.dec g31_4
    try simp only [V.mk] at g31_4
    refine V.ru 12 ?_
    refine V.nt ?_
    refine V.condY rfl rfl ?_
    refine V.sr ?_
    refine V.mkStruct T_ok zero41 rfl rfl rfl rfl rfl ?_
    replace Fk2 := Fk2.mS G235
    replace Fk2 := Fk2.ma G238
    refine V.storeO Fk2 rfl rfl rfl rfl sz41 rfl rfl rfl rfl ?_
    rintro w242 G243 z245 Fs244
    clear Fk2
    have z246 := V.Fr.size G243
    have Fk2 := Fs244; clear Fs244
    simp only [V.spliceL, V.cellsL] at Fk2
    refine V.ru 1 ?_
    refine V.nt ?_
    refine V.ret ?_
    refine V.tR ?_
    refine V.done2 rfl (V.resV_cell T_ok Fk2 rfl rfl) (V.resV_tmp rfl) ?_
    rw [show decC b = none from decC_no hR2 (by rintro ⟨h1, h2, h3⟩; first | (rw [h1] at g31_4; cases g31_4; done) | exact g31_12 (if_pos h2) | (rw [h3] at h31; cases h31; done))]
    replace HG := HG.nS G235
    replace HG := HG.n1 G238
    replace HG := HG.n1 G243
    exact ⟨none, 0, (by first | rfl | simp only [List.length_set]), V.Row.nil, HG⟩
   ·
    try replace g31_4 := V.dec g31_4
    try simp only [V.mk] at g31_4
    refine V.ru 3 ?_
    refine V.yes rfl rfl rfl ?_
    refine V.loadO T_ok F232 rfl rfl rfl rfl rfl ?_
    refine V.yes rfl rfl rfl ?_
    replace F231 := F231.ma G238
    refine V.call (rd_end F231) rfl rfl rfl ?_
    rintro _ w237_ ⟨rfl, rfl⟩
    refine V.ru 3 ?_
    refine V.split (j := 12) (t := 117) rfl rfl (fun g31_12 => ?_) (fun g31_12 => ?_)
    ·
     try replace g31_12 := V.dec g31_12
     try simp only [V.mk] at g31_12
     refine V.ru 4 ?_
     refine V.nt ?_
     refine V.condY rfl rfl ?_
     refine V.sr ?_
     refine V.mkStruct T_ok zero41 rfl rfl rfl rfl rfl ?_
     replace Fk2 := Fk2.mS G235
     replace Fk2 := Fk2.ma G238
     refine V.storeO Fk2 rfl rfl rfl rfl sz41 rfl rfl rfl rfl ?_
     rintro w248 G249 z251 Fs250
     clear Fk2
     have z252 := V.Fr.size G249
     have Fk2 := Fs250; clear Fs250
     simp only [V.spliceL, V.cellsL] at Fk2
     refine V.ru 1 ?_
     refine V.nt ?_
     refine V.ret ?_
     refine V.tR ?_
     refine V.done2 rfl (V.resV_cell T_ok Fk2 rfl rfl) (V.resV_tmp rfl) ?_
     rw [show decC b = none from decC_no hR2 (by rintro ⟨h1, h2, h3⟩; first | (rw [h1] at g31_4; cases g31_4; done) | exact g31_12 (if_pos h2) | (rw [h3] at h31; cases h31; done))]
     replace HG := HG.nS G235
     replace HG := HG.n1 G238
     replace HG := HG.n1 G249
     exact ⟨none, 0, (by first | rfl | simp only [List.length_set]), V.Row.nil, HG⟩
    ·
     try replace g31_12 := V.dec g31_12
     try simp only [V.mk] at g31_12
     refine V.yes rfl rfl rfl ?_
     have hsz : SzOk (⟨q1_0, q2_0, q3_0, q4_0, q5_0, q6_0, q7_0, q8_0, q8_1, q9_0, q10_0, q11_0, q12_0, q13_0, q14_0, q14_1, q15_0, q15_1, q16_0, q17_0, acc, pr⟩ : CmdV) := ⟨by assumption, by assumption, by assumption, by assumption, htx⟩
     refine V.loadO T_ok F233 rfl rfl rfl rfl rfl ?_
     refine V.yes rfl rfl rfl ?_
     replace rF9 := rF9.mS G235
     replace rF9 := rF9.ma G238
     refine V.call (cright_spec (d := (⟨q1_0, q2_0, q3_0, q4_0, q5_0, q6_0, q7_0, q8_0, q8_1, q9_0, q10_0, q11_0, q12_0, q13_0, q14_0, q14_1, q15_0, q15_1, q16_0, q17_0, acc, pr⟩ : CmdV)) rF9.sl (fun k hk => by have := hk.2; omega) (by first | (with_reducible assumption) | exact hz | (constructor <;> first | exact hz.an | exact hz.fr | exact hz.to | exact hz.va | exact hz.ws | exact (by decide : (S []).size ≤ 9223372036854775807) | exact (fun x hx => nomatch (show x ∈ ([] : List (ByteArray × Int)) from hx))))) rfl rfl rfl ?_
     rintro _ w253 ⟨rfl, G254⟩
     have z255 := V.Fr.size G254
     refine V.ru 2 ?_
     refine V.nt ?_
     refine V.condT rfl (fun h31 => ?_) (fun h31 => ?_)
     ·
      try replace h31 := V.dec h31
      try simp only [V.mk] at h31
      refine V.sr ?_
      refine V.mkStruct T_ok zero41 rfl rfl rfl rfl rfl ?_
      replace Fk2 := Fk2.mS G235
      replace Fk2 := Fk2.ma G238
      replace Fk2 := Fk2.gr G254
      refine V.storeO Fk2 rfl rfl rfl rfl sz41 rfl rfl rfl rfl ?_
      rintro w256 G257 z259 Fs258
      clear Fk2
      have z260 := V.Fr.size G257
      have Fk2 := Fs258; clear Fs258
      simp only [V.spliceL, V.cellsL] at Fk2
      refine V.ru 1 ?_
      refine V.nt ?_
      refine V.ret ?_
      refine V.tR ?_
      refine V.done2 rfl (V.resV_cell T_ok Fk2 rfl rfl) (V.resV_tmp rfl) ?_
      rw [show decC b = none from decC_no hR2 (by rintro ⟨h1, h2, h3⟩; first | (rw [h1] at g31_4; cases g31_4; done) | exact g31_12 (if_pos h2) | (rw [h3] at h31; cases h31; done))]
      replace HG := HG.nS G235
      replace HG := HG.n1 G238
      replace HG := HG.grow G254
      replace HG := HG.n1 G257
      exact ⟨none, 0, (by first | rfl | simp only [List.length_set]), V.Row.nil, HG⟩
     ·
      try replace h31 := V.dec h31
      try simp only [V.mk] at h31
      refine V.skip ?_
      refine V.tN ?_
      refine V.sr ?_
      replace F233 := F233.gr G254
      refine V.loadO T_ok F233 rfl rfl rfl rfl rfl ?_
      replace Fk2 := Fk2.mS G235
      replace Fk2 := Fk2.ma G238
      replace Fk2 := Fk2.gr G254
      refine V.storeO Fk2 rfl rfl rfl rfl sz41 rfl rfl rfl rfl ?_
      rintro w261 G262 z264 Fs263
      clear Fk2
      have z265 := V.Fr.size G262
      have Fk2 := Fs263; clear Fs263
      simp only [V.spliceL, V.cellsL] at Fk2
      refine V.ru 1 ?_
      refine V.nt ?_
      refine V.ret ?_
      refine V.done2 rfl (V.resV_cell T_ok Fk2 rfl rfl) (V.resV_tmp rfl) ?_
      rw [show decC b = some ⟨q1_0, q2_0, q3_0, q4_0, q5_0, q6_0, q7_0, q8_0, q8_1, q9_0, q10_0, q11_0, q12_0, q13_0, q14_0, q14_1, q15_0, q15_1, q16_0, q17_0, acc, pr⟩ from decC_yes hR2 (by exact g31_4) (by by_cases hd : dE = []; exact hd; rw [if_neg hd] at g31_12; cases g31_12) (by exact h31)]
      replace rF9 := rF9.gr G254
      replace rF9 := rF9.ma G262
      replace HG := HG.nS G235
      replace HG := HG.n1 G238
      replace HG := HG.grow G254
      replace HG := HG.n1 G262
      exact ⟨ra9, rc9, (by first | rfl | simp only [List.length_set]), rF9.re, HG⟩
 ·
  try replace g23_2 := V.dec g23_2
  try simp only [V.mk] at g23_2
  refine V.ru 6 ?_
  refine V.nt ?_
  refine V.condN rfl rfl ?_
  refine V.exit ?_
  refine V.tX ?_
  refine V.tX ?_
  refine V.bE ?_
  refine V.tN ?_
  refine V.sr ?_
  refine V.ru 2 ?_
  refine V.call (tk_number (Ft := F178) (FX := F177) (Fx := rFk9) (off := 21) (hle := rfl) (n1 := by omega) (n2 := by omega) (n3 := by omega) (n4 := (by intro h; first | exact n5 h.1 | (have := h.1; have := h.2; omega))) (n5 := (by intro h; first | exact n5 h.1 | (have := h.1; have := h.2; omega)))) rfl rfl rfl ?_
  rintro _ w269 ⟨rfl, F266, F267, F268, G270⟩
  have z271 := V.Fr.size G270
  simp only [V.spliceL, V.cellsL] at F268
  refine V.nt ?_
  refine V.seq ?_
  refine V.seq ?_
  have hR2 : decAll b = ((⟨q1_0, q2_0, q3_0, q4_0, q5_0, q6_0, q7_0, q8_0, q8_1, q9_0, q10_0, q11_0, q12_0, q13_0, q14_0, q14_1, q15_0, q15_1, q16_0, q17_0, acc, (rdN cur 1099511627776).1.1⟩ : CmdV), bd || decide (¬ (rdN cur 1099511627776).1.2 = 0), (rdN cur 1099511627776).2) := by
   rw [hR, ← hinv, wrL_end (by intro hq; first | exact g23_2 hq.1 | (have := hq.1; omega) | exact h23 hq.2 | (rw [hq.2] at h23; cases h23))]; rfl
  clear hR hinv
  generalize (rdN cur 1099511627776).1.1 = pr at F268 hR2
  generalize (bd || decide (¬ (rdN cur 1099511627776).1.2 = 0)) = bE at F267 hR2
  generalize (rdN cur 1099511627776).2 = dE at F266 hR2
  refine V.region ?_
  replace F52 := F52.mS G270
  refine V.loadO T_ok F52 rfl rfl rfl rfl rfl ?_
  refine V.ru 1 ?_
  refine V.storeO F268 rfl rfl rfl rfl sz34 rfl rfl rfl rfl ?_
  rintro w272 G273 z275 Fs274
  clear F268
  have z276 := V.Fr.size G273
  have F268 := Fs274; clear Fs274
  simp only [V.spliceL, V.cellsL] at F268
  refine V.nt ?_
  refine V.sr ?_
  refine V.ru 3 ?_
  replace F267 := F267.ma G273
  refine V.loadO T_ok F267 rfl rfl rfl rfl rfl ?_
  refine V.ru 1 ?_
  refine V.split (j := 4) (t := 109) rfl rfl (fun g31_4 => ?_) (fun g31_4 => ?_)
  ·
   try replace g31_4 := V.dec g31_4
   try simp only [V.mk] at g31_4
   refine V.ru 12 ?_
   refine V.nt ?_
   refine V.condY rfl rfl ?_
   refine V.sr ?_
   refine V.mkStruct T_ok zero41 rfl rfl rfl rfl rfl ?_
   replace Fk2 := Fk2.mS G270
   replace Fk2 := Fk2.ma G273
   refine V.storeO Fk2 rfl rfl rfl rfl sz41 rfl rfl rfl rfl ?_
   rintro w277 G278 z280 Fs279
   clear Fk2
   have z281 := V.Fr.size G278
   have Fk2 := Fs279; clear Fs279
   simp only [V.spliceL, V.cellsL] at Fk2
   refine V.ru 1 ?_
   refine V.nt ?_
   refine V.ret ?_
   refine V.tR ?_
   refine V.done2 rfl (V.resV_cell T_ok Fk2 rfl rfl) (V.resV_tmp rfl) ?_
   rw [show decC b = none from decC_no hR2 (by rintro ⟨h1, h2, h3⟩; first | (rw [h1] at g31_4; cases g31_4; done) | exact g31_12 (if_pos h2) | (rw [h3] at h31; cases h31; done))]
   replace HG := HG.nS G270
   replace HG := HG.n1 G273
   replace HG := HG.n1 G278
   exact ⟨none, 0, (by first | rfl | simp only [List.length_set]), V.Row.nil, HG⟩
  ·
   try replace g31_4 := V.dec g31_4
   try simp only [V.mk] at g31_4
   refine V.ru 3 ?_
   refine V.yes rfl rfl rfl ?_
   refine V.loadO T_ok F267 rfl rfl rfl rfl rfl ?_
   refine V.yes rfl rfl rfl ?_
   replace F266 := F266.ma G273
   refine V.call (rd_end F266) rfl rfl rfl ?_
   rintro _ w272_ ⟨rfl, rfl⟩
   refine V.ru 3 ?_
   refine V.split (j := 12) (t := 117) rfl rfl (fun g31_12 => ?_) (fun g31_12 => ?_)
   ·
    try replace g31_12 := V.dec g31_12
    try simp only [V.mk] at g31_12
    refine V.ru 4 ?_
    refine V.nt ?_
    refine V.condY rfl rfl ?_
    refine V.sr ?_
    refine V.mkStruct T_ok zero41 rfl rfl rfl rfl rfl ?_
    replace Fk2 := Fk2.mS G270
    replace Fk2 := Fk2.ma G273
    refine V.storeO Fk2 rfl rfl rfl rfl sz41 rfl rfl rfl rfl ?_
    rintro w283 G284 z286 Fs285
    clear Fk2
    have z287 := V.Fr.size G284
    have Fk2 := Fs285; clear Fs285
    simp only [V.spliceL, V.cellsL] at Fk2
    refine V.ru 1 ?_
    refine V.nt ?_
    refine V.ret ?_
    refine V.tR ?_
    refine V.done2 rfl (V.resV_cell T_ok Fk2 rfl rfl) (V.resV_tmp rfl) ?_
    rw [show decC b = none from decC_no hR2 (by rintro ⟨h1, h2, h3⟩; first | (rw [h1] at g31_4; cases g31_4; done) | exact g31_12 (if_pos h2) | (rw [h3] at h31; cases h31; done))]
    replace HG := HG.nS G270
    replace HG := HG.n1 G273
    replace HG := HG.n1 G284
    exact ⟨none, 0, (by first | rfl | simp only [List.length_set]), V.Row.nil, HG⟩
   ·
    try replace g31_12 := V.dec g31_12
    try simp only [V.mk] at g31_12
    refine V.yes rfl rfl rfl ?_
    have hsz : SzOk (⟨q1_0, q2_0, q3_0, q4_0, q5_0, q6_0, q7_0, q8_0, q8_1, q9_0, q10_0, q11_0, q12_0, q13_0, q14_0, q14_1, q15_0, q15_1, q16_0, q17_0, acc, pr⟩ : CmdV) := ⟨by assumption, by assumption, by assumption, by assumption, htx⟩
    refine V.loadO T_ok F268 rfl rfl rfl rfl rfl ?_
    refine V.yes rfl rfl rfl ?_
    replace rF9 := rF9.mS G270
    replace rF9 := rF9.ma G273
    refine V.call (cright_spec (d := (⟨q1_0, q2_0, q3_0, q4_0, q5_0, q6_0, q7_0, q8_0, q8_1, q9_0, q10_0, q11_0, q12_0, q13_0, q14_0, q14_1, q15_0, q15_1, q16_0, q17_0, acc, pr⟩ : CmdV)) rF9.sl (fun k hk => by have := hk.2; omega) (by first | (with_reducible assumption) | exact hz | (constructor <;> first | exact hz.an | exact hz.fr | exact hz.to | exact hz.va | exact hz.ws | exact (by decide : (S []).size ≤ 9223372036854775807) | exact (fun x hx => nomatch (show x ∈ ([] : List (ByteArray × Int)) from hx))))) rfl rfl rfl ?_
    rintro _ w288 ⟨rfl, G289⟩
    have z290 := V.Fr.size G289
    refine V.ru 2 ?_
    refine V.nt ?_
    refine V.condT rfl (fun h31 => ?_) (fun h31 => ?_)
    ·
     try replace h31 := V.dec h31
     try simp only [V.mk] at h31
     refine V.sr ?_
     refine V.mkStruct T_ok zero41 rfl rfl rfl rfl rfl ?_
     replace Fk2 := Fk2.mS G270
     replace Fk2 := Fk2.ma G273
     replace Fk2 := Fk2.gr G289
     refine V.storeO Fk2 rfl rfl rfl rfl sz41 rfl rfl rfl rfl ?_
     rintro w291 G292 z294 Fs293
     clear Fk2
     have z295 := V.Fr.size G292
     have Fk2 := Fs293; clear Fs293
     simp only [V.spliceL, V.cellsL] at Fk2
     refine V.ru 1 ?_
     refine V.nt ?_
     refine V.ret ?_
     refine V.tR ?_
     refine V.done2 rfl (V.resV_cell T_ok Fk2 rfl rfl) (V.resV_tmp rfl) ?_
     rw [show decC b = none from decC_no hR2 (by rintro ⟨h1, h2, h3⟩; first | (rw [h1] at g31_4; cases g31_4; done) | exact g31_12 (if_pos h2) | (rw [h3] at h31; cases h31; done))]
     replace HG := HG.nS G270
     replace HG := HG.n1 G273
     replace HG := HG.grow G289
     replace HG := HG.n1 G292
     exact ⟨none, 0, (by first | rfl | simp only [List.length_set]), V.Row.nil, HG⟩
    ·
     try replace h31 := V.dec h31
     try simp only [V.mk] at h31
     refine V.skip ?_
     refine V.tN ?_
     refine V.sr ?_
     replace F268 := F268.gr G289
     refine V.loadO T_ok F268 rfl rfl rfl rfl rfl ?_
     replace Fk2 := Fk2.mS G270
     replace Fk2 := Fk2.ma G273
     replace Fk2 := Fk2.gr G289
     refine V.storeO Fk2 rfl rfl rfl rfl sz41 rfl rfl rfl rfl ?_
     rintro w296 G297 z299 Fs298
     clear Fk2
     have z300 := V.Fr.size G297
     have Fk2 := Fs298; clear Fs298
     simp only [V.spliceL, V.cellsL] at Fk2
     refine V.ru 1 ?_
     refine V.nt ?_
     refine V.ret ?_
     refine V.done2 rfl (V.resV_cell T_ok Fk2 rfl rfl) (V.resV_tmp rfl) ?_
     rw [show decC b = some ⟨q1_0, q2_0, q3_0, q4_0, q5_0, q6_0, q7_0, q8_0, q8_1, q9_0, q10_0, q11_0, q12_0, q13_0, q14_0, q14_1, q15_0, q15_1, q16_0, q17_0, acc, pr⟩ from decC_yes hR2 (by exact g31_4) (by by_cases hd : dE = []; exact hd; rw [if_neg hd] at g31_12; cases g31_12) (by exact h31)]
     replace rF9 := rF9.gr G289
     replace rF9 := rF9.ma G297
     replace HG := HG.nS G270
     replace HG := HG.n1 G273
     replace HG := HG.grow G289
     replace HG := HG.n1 G297
     exact ⟨ra9, rc9, (by first | rfl | simp only [List.length_set]), rF9.re, HG⟩

end Go.Proofs.YtmmgmkklakkooaaGreat
