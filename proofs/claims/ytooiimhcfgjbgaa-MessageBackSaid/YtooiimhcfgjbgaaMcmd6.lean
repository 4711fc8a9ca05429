/- Proved here: walks: what functions of this seat's program return and what they leave of memory, each as a contract. Conditions: stated at each theorem. -/
import Derived.Test.YtooiimhcfgjbgaaMcmd5
namespace Go.Proofs.Ytooiimhcfgjbgaa
set_option linter.unusedVariables false
set_option linter.unusedSimpArgs false
open Go
open V (Bytes Meets Env Sl Own Gr Fr Cells S)

def kN {α : Type} (b : Bool) (d : List UInt8) (k : Int → Bool → List UInt8 → α) : α := k (rdN d 1099511627776).1.1 (b || decide (¬ (rdN d 1099511627776).1.2 = 0)) (rdN d 1099511627776).2
def kT {α : Type} (b : Bool) (d : List UInt8) (k : ByteArray → Bool → List UInt8 → α) : α := k (S (rdT d 65536).1.1) (b || decide (¬ (rdT d 65536).1.2 = 0)) (rdT d 65536).2
def kS {α : Type} (b : Bool) (d : List UInt8) (k : Int → Int → Bool → List UInt8 → α) : α := k (rdS d).1.1.1 (rdS d).1.1.2 (b || decide (¬ (rdS d).1.2 = 0)) (rdS d).2
def kF {α : Type} (b : Bool) (d : List UInt8) (k : Bool → Bool → List UInt8 → α) : α := k (rdF d).1.1 (b || decide (¬ (rdF d).1.2 = 0)) (rdF d).2
theorem kN_eq {α : Type} {b b' : Bool} {d d' : List UInt8} {q : Int} {k : Int → Bool → List UInt8 → α} (h1 : (rdN d 1099511627776).1.1 = q) (h2 : (b || decide (¬ (rdN d 1099511627776).1.2 = 0)) = b') (h3 : (rdN d 1099511627776).2 = d') : kN b d k = k q b' d' := by subst h1 h2 h3; rfl
theorem kT_eq {α : Type} {b b' : Bool} {d d' : List UInt8} {q : ByteArray} {k : ByteArray → Bool → List UInt8 → α} (h1 : S (rdT d 65536).1.1 = q) (h2 : (b || decide (¬ (rdT d 65536).1.2 = 0)) = b') (h3 : (rdT d 65536).2 = d') : kT b d k = k q b' d' := by subst h1 h2 h3; rfl
theorem kS_eq {α : Type} {b b' : Bool} {d d' : List UInt8} {q r : Int} {k : Int → Int → Bool → List UInt8 → α} (h1 : (rdS d).1.1.1 = q) (h0 : (rdS d).1.1.2 = r) (h2 : (b || decide (¬ (rdS d).1.2 = 0)) = b') (h3 : (rdS d).2 = d') : kS b d k = k q r b' d' := by subst h1 h0 h2 h3; rfl
theorem kF_eq {α : Type} {b b' q : Bool} {d d' : List UInt8} {k : Bool → Bool → List UInt8 → α} (h1 : (rdF d).1.1 = q) (h2 : (b || decide (¬ (rdF d).1.2 = 0)) = b') (h3 : (rdF d).2 = d') : kF b d k = k q b' d' := by subst h1 h2 h3; rfl
/-- the writes that come next -/
def wrL : Nat → Bool → List UInt8 → List (ByteArray × Int) → Bool × List UInt8 × List (ByteArray × Int)
  | 0, b, d, acc => (b, d, acc)
  | n + 1, b, d, acc => if b = true then (b, d, acc) else kT b d fun tx b d => kN b d fun sq b d => wrL n b d (acc ++ [(tx, sq)])
def decEnd (kd id le nd ti te : Int) (an : ByteArray) (sw sl sq : Int) (fr to va : ByteArray) (go : Bool) (aw al lw ll : Int) (cm st : Bool) (x : Bool × List UInt8 × List (ByteArray × Int)) : CmdV × Bool × List UInt8 :=
  kN x.1 x.2.1 fun pr b d => (⟨kd, id, le, nd, ti, te, an, sw, sl, sq, fr, to, va, go, aw, al, lw, ll, cm, st, x.2.2, pr⟩, b, d)
/-- what a command's bytes are read as, whatever comes of it -/
def decAll (d : List UInt8) : CmdV × Bool × List UInt8 :=
  kN false d fun kd b d => kN b d fun id b d => kN b d fun le b d => kN b d fun nd b d => kN b d fun ti b d => kN b d fun te b d => kT b d fun an b d => kS b d fun sw sl b d => kN b d fun sq b d =>
  kT b d fun fr b d => kT b d fun to b d => kT b d fun va b d => kF b d fun go b d => kS b d fun aw al b d => kS b d fun lw ll b d => kF b d fun cm b d => kF b d fun st b d => kN b d fun n b d => decEnd kd id le nd ti te an sw sl sq fr to va go aw al lw ll cm st (wrL n.toNat b d [])
/-- the command of bytes -/
def decC (d : List UInt8) : Option CmdV := if (decAll d).2.1 = false ∧ (decAll d).2.2 = [] ∧ cmdB (decAll d).1 = true then some (decAll d).1 else none
def cmdZ : CmdV := ⟨0, 0, 0, 0, 0, 0, S [], 0, 0, 0, S [], S [], S [], false, 0, 0, 0, 0, false, false, [], 0⟩
theorem rdT_leM (d : List UInt8) : (rdT d 65536).1.1.length ≤ 65536 := by
  unfold rdT
  split
  · simp
  · simp only [List.length_take]; omega
theorem szT {d : List UInt8} {q : ByteArray} (h : S (rdT d 65536).1.1 = q) : q.size ≤ 9223372036854775807 := by
  have := rdT_leM d
  subst h; rw [V.S_size]; omega
theorem rdN_rng0 (d : List UInt8) {m : Int} (hm : 0 ≤ m) : 0 ≤ (rdN d m).1.1 ∧ (rdN d m).1.1 ≤ m := by
  unfold rdN
  split
  · simp; exact hm
  · simp only; omega
theorem rngN {d : List UInt8} {q : Int} (h : (rdN d 1099511627776).1.1 = q) : 0 ≤ q ∧ q ≤ 1099511627776 := h ▸ rdN_rng0 d (by decide)
theorem wrL_end {n : Int} {b : Bool} {d : List UInt8} {acc : List (ByteArray × Int)} (h : ¬ (0 < n ∧ b = false)) : wrL n.toNat b d acc = (b, d, acc) := by
  rcases hn : n.toNat with _ | k
  · rfl
  · cases b
    · exact absurd ⟨by omega, rfl⟩ h
    · rfl
theorem wrL_succ {n : Int} {b : Bool} {d : List UInt8} {acc : List (ByteArray × Int)} (h : 0 < n) (hb : b = false) : wrL n.toNat b d acc = kT b d fun tx b d => kN b d fun sq b d => wrL (n - 1).toNat b d (acc ++ [(tx, sq)]) := by
  subst hb
  rw [show n.toNat = (n - 1).toNat + 1 by omega]
  rfl
def txOk (ws : List (ByteArray × Int)) : Prop := ∀ x ∈ ws, x.1.size ≤ 9223372036854775807
theorem txOk.snoc {ws : List (ByteArray × Int)} {x : ByteArray × Int} (h : txOk ws) (hx : x.1.size ≤ 9223372036854775807) : txOk (ws ++ [x]) := by
  intro y hy
  rcases List.mem_append.1 hy with h1 | h1
  · exact h y h1
  · rw [List.mem_singleton.1 h1]; exact hx
theorem decC_no {d d' : List UInt8} {c : CmdV} {b : Bool} (h : decAll d = (c, b, d')) (h2 : ¬ (b = false ∧ d' = [] ∧ cmdB c = true)) : decC d = none := by unfold decC; rw [h]; exact if_neg h2
theorem decC_yes {d d' : List UInt8} {c : CmdV} {b : Bool} (h : decAll d = (c, b, d')) (h1 : b = false) (h2 : d' = []) (h3 : cmdB c = true) : decC d = some c := by unfold decC; rw [h]; exact if_pos ⟨h1, h2, h3⟩

set_option maxHeartbeats 900000 in
set_option maxRecDepth 10000 in
theorem decode_spec {w : World}  {D_b : Nat → Prop} {c_b : Nat} {a_b : Option Addr} {b : List UInt8} (F_b : Sl V.Cod.byte w D_b a_b c_b b) (hD_b : ∀ k, D_b k → k < w.heap.size) (hl : b.length ≤ 140737488355328) :
    Meets Try.prog 23 [.slice a_b b.length c_b] w fun r w' => ∃ (ra53 : Option Addr) (rc53 : Nat), r = .tuple #[.agg #[.int .i64 (((decC b).getD cmdZ).kd), .int .i64 (((decC b).getD cmdZ).id), .int .i64 (((decC b).getD cmdZ).le), .int .i64 (((decC b).getD cmdZ).nd), .int .i64 (((decC b).getD cmdZ).ti), .int .i64 (((decC b).getD cmdZ).te), .string (((decC b).getD cmdZ).an), .int .i64 (((decC b).getD cmdZ).sw), .int .i64 (((decC b).getD cmdZ).sl), .int .i64 (((decC b).getD cmdZ).sq), .string (((decC b).getD cmdZ).fr), .string (((decC b).getD cmdZ).to), .string (((decC b).getD cmdZ).va), .bool (((decC b).getD cmdZ).go), .int .i64 (((decC b).getD cmdZ).aw), .int .i64 (((decC b).getD cmdZ).al), .int .i64 (((decC b).getD cmdZ).lw), .int .i64 (((decC b).getD cmdZ).ll), .bool (((decC b).getD cmdZ).cm), .bool (((decC b).getD cmdZ).st), .slice ra53 (((decC b).getD cmdZ).ws).length rc53, .int .i64 (((decC b).getD cmdZ).pr)], .int .i64 (if (decC b).isSome = true then 0 else 131)] ∧ V.Row V.Cod.write 60 w' V.None' w.heap.size w'.heap.size ra53 rc53 (((decC b).getD cmdZ).ws) ∧ Gr w w' := by
 have HG := V.Fr.refl [] w
 refine V.enter (n := 124) Try.func23 rfl rfl (by decide) rfl ?_
 refine V.sr ?_
 refine V.alloc zero34 rfl rfl rfl ?_
 rintro k1 w3 s5 s6 G4 Fk2
 have z7 := V.Fr.size G4
 try replace F_b := F_b.gr G4
 replace HG := HG.grow G4
 try simp only [V.cellsL, V.spliceL] at Fk2
 refine V.ru 1 ?_
 refine V.nt ?_
 refine V.sr ?_
 refine V.ru 1 ?_
 refine V.call (p_open F_b (fun k hk => by have := hD_b k hk; omega) V.lenA) rfl rfl rfl ?_
 rintro _ w11 ⟨k8, rfl, ⟨h9l, h9u⟩, F10, G12⟩
 have z13 := V.Fr.size G12
 try replace F_b := F_b.gr G12
 try replace Fk2 := Fk2.gr G12
 replace HG := HG.grow G12
 refine V.mkStruct T_ok zero120 rfl rfl rfl rfl rfl ?_
 refine V.box rfl rfl rfl rfl ?_
 rintro k14 w16 s18 s19 G17 Fk15
 have z20 := V.Fr.size G17
 try replace F_b := F_b.gr G17
 try replace Fk2 := Fk2.gr G17
 try replace F10 := F10.gr G17
 replace HG := HG.grow G17
 try simp only [V.cellsL, V.spliceL] at Fk15
 refine V.ru 1 ?_
 refine V.nt ?_
 refine V.sr ?_
 refine V.alloc zero34 rfl rfl rfl ?_
 rintro k21 w23 s25 s26 G24 Fk22
 have z27 := V.Fr.size G24
 try replace F_b := F_b.gr G24
 try replace Fk2 := Fk2.gr G24
 try replace F10 := F10.gr G24
 try replace Fk15 := Fk15.gr G24
 replace HG := HG.grow G24
 try simp only [V.cellsL, V.spliceL] at Fk22
 refine V.nt ?_
 refine V.sr ?_
 refine V.alloc zero3 rfl rfl rfl ?_
 rintro k28 w30 s32 s33 G31 Fk29
 have z34 := V.Fr.size G31
 try replace F_b := F_b.gr G31
 try replace Fk2 := Fk2.gr G31
 try replace F10 := F10.gr G31
 try replace Fk15 := Fk15.gr G31
 try replace Fk22 := Fk22.gr G31
 replace HG := HG.grow G31
 try simp only [V.cellsL, V.spliceL] at Fk29
 refine V.alloc zero3 rfl rfl rfl ?_
 rintro k35 w37 s39 s40 G38 Fk36
 have z41 := V.Fr.size G38
 try replace F_b := F_b.gr G38
 try replace Fk2 := Fk2.gr G38
 try replace F10 := F10.gr G38
 try replace Fk15 := Fk15.gr G38
 try replace Fk22 := Fk22.gr G38
 try replace Fk29 := Fk29.gr G38
 replace HG := HG.grow G38
 try simp only [V.cellsL, V.spliceL] at Fk36
 refine V.nt ?_
 refine V.seq ?_
 refine V.sr ?_
 refine V.ru 7 ?_
 refine V.mkSlice T_ok zero67 rfl rfl sz67 rfl rfl rfl rfl rfl rfl ?_
 rintro k42 w45 s47 s48 G46 Fk43
 have z49 := V.Fr.size G46
 try replace F_b := F_b.gr G46
 try replace Fk2 := Fk2.gr G46
 try replace F10 := F10.gr G46
 try replace Fk15 := Fk15.gr G46
 try replace Fk22 := Fk22.gr G46
 try replace Fk29 := Fk29.gr G46
 try replace Fk36 := Fk36.gr G46
 replace HG := HG.grow G46
 refine V.ru 2 ?_
 refine V.nt ?_
 refine V.block ?_
 refine V.loopR 7 ?_
 refine V.rnd ?_
 refine V.sr ?_
 refine V.ru 1 ?_
 refine V.nt ?_
 refine V.seq ?_
 refine V.condY rfl rfl ?_
 refine V.skip ?_
 refine V.tN ?_
 refine V.seq ?_
 refine V.block ?_
 refine V.sr ?_
 refine V.step rfl rfl (V.elem_run T_ok rfl rfl sz67 rfl rfl (by decide) (by decide) _) ?_
 refine V.loadO T_ok Fk43 rfl rfl rfl rfl rfl ?_
 refine V.ru 1 ?_
 refine V.nt ?_
 refine V.region ?_
 refine V.ru 2 ?_
 refine V.call (tk_number (Ft := Fk15) (FX := F10) (Fx := Fk29) (off := 0) (hle := rfl) (n1 := by omega) (n2 := by omega) (n3 := by omega) (n4 := (by intro h; first | exact n5 h.1 | (have := h.1; have := h.2; omega))) (n5 := (by intro h; first | exact n5 h.1 | (have := h.1; have := h.2; omega)))) rfl rfl rfl ?_
 rintro _ w53 ⟨rfl, F50, F51, F52, G54⟩
 obtain ⟨w55, G56, G57⟩ := V.Fr.cut G54
 have z58 := V.Fr.size G56
 try replace F_b := F_b.mb G56 hD_b
 try replace Fk2 := Fk2.ma G56
 try replace F10 := F10.ma G56
 try replace Fk15 := Fk15.ma G56
 try replace Fk22 := Fk22.ma G56
 try replace Fk29 := Fk29.ma G56
 try replace Fk36 := Fk36.ma G56
 try replace Fk43 := Fk43.ma G56
 replace HG := HG.n1 G56
 obtain ⟨w59, G60, G61⟩ := V.Fr.two G57
 have z62 := V.Fr.size G60
 try replace F_b := F_b.mb G60 hD_b
 try replace Fk2 := Fk2.ma G60
 try replace F10 := F10.ma G60
 try replace Fk15 := Fk15.ma G60
 try replace Fk22 := Fk22.ma G60
 try replace Fk29 := Fk29.ma G60
 try replace Fk36 := Fk36.ma G60
 try replace Fk43 := Fk43.ma G60
 replace HG := HG.n1 G60
 have z63 := V.Fr.size G61
 try replace F_b := F_b.mb G61 hD_b
 try replace Fk2 := Fk2.ma G61
 try replace F10 := F10.ma G61
 try replace Fk15 := Fk15.ma G61
 try replace Fk22 := Fk22.ma G61
 try replace Fk29 := Fk29.ma G61
 try replace Fk36 := Fk36.ma G61
 try replace Fk43 := Fk43.ma G61
 replace HG := HG.n1 G61
 simp only [V.spliceL, V.cellsL] at F52
 refine V.nil ?_
 refine V.bN ?_
 refine V.tN ?_
 refine V.region ?_
 refine V.addN rfl rfl rfl rfl rfl V.lenA V.lenA ?_
 refine V.ru 1 ?_
 refine V.nt ?_
 refine V.rnd ?_
 refine V.seq ?_
 have z64 : w45.heap.size ≤ w53.heap.size := by omega
 try clear z58
 try clear z62
 try clear z63
 generalize hd1 : (rdN b 1099511627776).2 = d1 at F50
 generalize hb1 : (false || decide (¬ (rdN b 1099511627776).1.2 = 0)) = b1 at F51
 generalize hq1_0 : (rdN b 1099511627776).1.1 = q1_0 at F52
 refine V.region ?_
 refine V.ru 1 ?_
 refine V.nt ?_
 refine V.seq ?_
 refine V.condY rfl rfl ?_
 refine V.skip ?_
 refine V.tN ?_
 refine V.seq ?_
 refine V.block ?_
 refine V.sr ?_
 refine V.step rfl rfl (V.elem_run T_ok rfl rfl sz67 rfl rfl (by decide) (by decide) _) ?_
 refine V.loadO T_ok Fk43 rfl rfl rfl rfl rfl ?_
 refine V.ru 1 ?_
 refine V.nt ?_
 refine V.region ?_
 refine V.ru 2 ?_
 refine V.call (tk_number (Ft := F51) (FX := F50) (Fx := Fk22) (off := 1) (hle := rfl) (n1 := by omega) (n2 := by omega) (n3 := by omega) (n4 := (by intro h; first | exact n5 h.1 | (have := h.1; have := h.2; omega))) (n5 := (by intro h; first | exact n5 h.1 | (have := h.1; have := h.2; omega)))) rfl rfl rfl ?_
 rintro _ w68 ⟨rfl, F65, F66, F67, G69⟩
 obtain ⟨w70, G71, G72⟩ := V.Fr.cut G69
 have z73 := V.Fr.size G71
 try replace F_b := F_b.mb G71 hD_b
 try replace Fk2 := Fk2.ma G71
 try replace Fk22 := Fk22.ma G71
 try replace Fk36 := Fk36.ma G71
 try replace Fk43 := Fk43.ma G71
 try replace F50 := F50.ma G71
 try replace F51 := F51.ma G71
 try replace F52 := F52.ma G71
 replace HG := HG.n1 G71
 obtain ⟨w74, G75, G76⟩ := V.Fr.two G72
 have z77 := V.Fr.size G75
 try replace F_b := F_b.mb G75 hD_b
 try replace Fk2 := Fk2.ma G75
 try replace Fk22 := Fk22.ma G75
 try replace Fk36 := Fk36.ma G75
 try replace Fk43 := Fk43.ma G75
 try replace F50 := F50.ma G75
 try replace F51 := F51.ma G75
 try replace F52 := F52.ma G75
 replace HG := HG.n1 G75
 have z78 := V.Fr.size G76
 try replace F_b := F_b.mb G76 hD_b
 try replace Fk2 := Fk2.ma G76
 try replace Fk22 := Fk22.ma G76
 try replace Fk36 := Fk36.ma G76
 try replace Fk43 := Fk43.ma G76
 try replace F50 := F50.ma G76
 try replace F51 := F51.ma G76
 try replace F52 := F52.ma G76
 replace HG := HG.n1 G76
 simp only [V.spliceL, V.cellsL] at F67
 refine V.nil ?_
 refine V.bN ?_
 refine V.tN ?_
 refine V.region ?_
 refine V.addN rfl rfl rfl rfl rfl V.lenA V.lenA ?_
 refine V.ru 1 ?_
 refine V.nt ?_
 refine V.rnd ?_
 refine V.seq ?_
 have z79 : w53.heap.size ≤ w68.heap.size := by omega
 try clear z73
 try clear z77
 try clear z78
 generalize hd2 : (rdN d1 1099511627776).2 = d2 at F65
 generalize hb2 : (b1 || decide (¬ (rdN d1 1099511627776).1.2 = 0)) = b2 at F66
 generalize hq2_0 : (rdN d1 1099511627776).1.1 = q2_0 at F67
 refine V.region ?_
 refine V.ru 1 ?_
 refine V.nt ?_
 refine V.seq ?_
 refine V.condY rfl rfl ?_
 refine V.skip ?_
 refine V.tN ?_
 refine V.seq ?_
 refine V.block ?_
 refine V.sr ?_
 refine V.step rfl rfl (V.elem_run T_ok rfl rfl sz67 rfl rfl (by decide) (by decide) _) ?_
 refine V.loadO T_ok Fk43 rfl rfl rfl rfl rfl ?_
 refine V.ru 1 ?_
 refine V.nt ?_
 refine V.region ?_
 refine V.ru 2 ?_
 refine V.call (tk_number (Ft := F66) (FX := F65) (Fx := F67) (off := 2) (hle := rfl) (n1 := by omega) (n2 := by omega) (n3 := by omega) (n4 := (by intro h; first | exact n5 h.1 | (have := h.1; have := h.2; omega))) (n5 := (by intro h; first | exact n5 h.1 | (have := h.1; have := h.2; omega)))) rfl rfl rfl ?_
 rintro _ w83 ⟨rfl, F80, F81, F82, G84⟩
 obtain ⟨w85, G86, G87⟩ := V.Fr.cut G84
 have z88 := V.Fr.size G86
 try replace F_b := F_b.mb G86 hD_b
 try replace Fk2 := Fk2.ma G86
 try replace Fk36 := Fk36.ma G86
 try replace Fk43 := Fk43.ma G86
 try replace F52 := F52.ma G86
 try replace F65 := F65.ma G86
 try replace F66 := F66.ma G86
 try replace F67 := F67.ma G86
 replace HG := HG.n1 G86
 obtain ⟨w89, G90, G91⟩ := V.Fr.two G87
 have z92 := V.Fr.size G90
 try replace F_b := F_b.mb G90 hD_b
 try replace Fk2 := Fk2.ma G90
 try replace Fk36 := Fk36.ma G90
 try replace Fk43 := Fk43.ma G90
 try replace F52 := F52.ma G90
 try replace F65 := F65.ma G90
 try replace F66 := F66.ma G90
 try replace F67 := F67.ma G90
 replace HG := HG.n1 G90
 have z93 := V.Fr.size G91
 try replace F_b := F_b.mb G91 hD_b
 try replace Fk2 := Fk2.ma G91
 try replace Fk36 := Fk36.ma G91
 try replace Fk43 := Fk43.ma G91
 try replace F52 := F52.ma G91
 try replace F65 := F65.ma G91
 try replace F66 := F66.ma G91
 try replace F67 := F67.ma G91
 replace HG := HG.n1 G91
 simp only [V.spliceL, V.cellsL] at F82
 refine V.nil ?_
 refine V.bN ?_
 refine V.tN ?_
 refine V.region ?_
 refine V.addN rfl rfl rfl rfl rfl V.lenA V.lenA ?_
 refine V.ru 1 ?_
 refine V.nt ?_
 refine V.rnd ?_
 refine V.seq ?_
 have z94 : w68.heap.size ≤ w83.heap.size := by omega
 try clear z88
 try clear z92
 try clear z93
 generalize hd3 : (rdN d2 1099511627776).2 = d3 at F80
 generalize hb3 : (b2 || decide (¬ (rdN d2 1099511627776).1.2 = 0)) = b3 at F81
 generalize hq3_0 : (rdN d2 1099511627776).1.1 = q3_0 at F82
 refine V.region ?_
 refine V.ru 1 ?_
 refine V.nt ?_
 refine V.seq ?_
 refine V.condY rfl rfl ?_
 refine V.skip ?_
 refine V.tN ?_
 refine V.seq ?_
 refine V.block ?_
 refine V.sr ?_
 refine V.step rfl rfl (V.elem_run T_ok rfl rfl sz67 rfl rfl (by decide) (by decide) _) ?_
 refine V.loadO T_ok Fk43 rfl rfl rfl rfl rfl ?_
 refine V.ru 1 ?_
 refine V.nt ?_
 refine V.region ?_
 refine V.ru 2 ?_
 refine V.call (tk_number (Ft := F81) (FX := F80) (Fx := F82) (off := 3) (hle := rfl) (n1 := by omega) (n2 := by omega) (n3 := by omega) (n4 := (by intro h; first | exact n5 h.1 | (have := h.1; have := h.2; omega))) (n5 := (by intro h; first | exact n5 h.1 | (have := h.1; have := h.2; omega)))) rfl rfl rfl ?_
 rintro _ w98 ⟨rfl, F95, F96, F97, G99⟩
 obtain ⟨w100, G101, G102⟩ := V.Fr.cut G99
 have z103 := V.Fr.size G101
 try replace F_b := F_b.mb G101 hD_b
 try replace Fk2 := Fk2.ma G101
 try replace Fk36 := Fk36.ma G101
 try replace Fk43 := Fk43.ma G101
 try replace F52 := F52.ma G101
 try replace F80 := F80.ma G101
 try replace F81 := F81.ma G101
 try replace F82 := F82.ma G101
 replace HG := HG.n1 G101
 obtain ⟨w104, G105, G106⟩ := V.Fr.two G102
 have z107 := V.Fr.size G105
 try replace F_b := F_b.mb G105 hD_b
 try replace Fk2 := Fk2.ma G105
 try replace Fk36 := Fk36.ma G105
 try replace Fk43 := Fk43.ma G105
 try replace F52 := F52.ma G105
 try replace F80 := F80.ma G105
 try replace F81 := F81.ma G105
 try replace F82 := F82.ma G105
 replace HG := HG.n1 G105
 have z108 := V.Fr.size G106
 try replace F_b := F_b.mb G106 hD_b
 try replace Fk2 := Fk2.ma G106
 try replace Fk36 := Fk36.ma G106
 try replace Fk43 := Fk43.ma G106
 try replace F52 := F52.ma G106
 try replace F80 := F80.ma G106
 try replace F81 := F81.ma G106
 try replace F82 := F82.ma G106
 replace HG := HG.n1 G106
 simp only [V.spliceL, V.cellsL] at F97
 refine V.nil ?_
 refine V.bN ?_
 refine V.tN ?_
 refine V.region ?_
 refine V.addN rfl rfl rfl rfl rfl V.lenA V.lenA ?_
 refine V.ru 1 ?_
 refine V.nt ?_
 refine V.rnd ?_
 refine V.seq ?_
 have z109 : w83.heap.size ≤ w98.heap.size := by omega
 try clear z103
 try clear z107
 try clear z108
 generalize hd4 : (rdN d3 1099511627776).2 = d4 at F95
 generalize hb4 : (b3 || decide (¬ (rdN d3 1099511627776).1.2 = 0)) = b4 at F96
 generalize hq4_0 : (rdN d3 1099511627776).1.1 = q4_0 at F97
 refine V.region ?_
 refine V.ru 1 ?_
 refine V.nt ?_
 refine V.seq ?_
 refine V.condY rfl rfl ?_
 refine V.skip ?_
 refine V.tN ?_
 refine V.seq ?_
 refine V.block ?_
 refine V.sr ?_
 refine V.step rfl rfl (V.elem_run T_ok rfl rfl sz67 rfl rfl (by decide) (by decide) _) ?_
 refine V.loadO T_ok Fk43 rfl rfl rfl rfl rfl ?_
 refine V.ru 1 ?_
 refine V.nt ?_
 refine V.region ?_
 refine V.ru 2 ?_
 refine V.call (tk_number (Ft := F96) (FX := F95) (Fx := F97) (off := 4) (hle := rfl) (n1 := by omega) (n2 := by omega) (n3 := by omega) (n4 := (by intro h; first | exact n5 h.1 | (have := h.1; have := h.2; omega))) (n5 := (by intro h; first | exact n5 h.1 | (have := h.1; have := h.2; omega)))) rfl rfl rfl ?_
 rintro _ w113 ⟨rfl, F110, F111, F112, G114⟩
 obtain ⟨w115, G116, G117⟩ := V.Fr.cut G114
 have z118 := V.Fr.size G116
 try replace F_b := F_b.mb G116 hD_b
 try replace Fk2 := Fk2.ma G116
 try replace Fk36 := Fk36.ma G116
 try replace Fk43 := Fk43.ma G116
 try replace F52 := F52.ma G116
 try replace F95 := F95.ma G116
 try replace F96 := F96.ma G116
 try replace F97 := F97.ma G116
 replace HG := HG.n1 G116
 obtain ⟨w119, G120, G121⟩ := V.Fr.two G117
 have z122 := V.Fr.size G120
 try replace F_b := F_b.mb G120 hD_b
 try replace Fk2 := Fk2.ma G120
 try replace Fk36 := Fk36.ma G120
 try replace Fk43 := Fk43.ma G120
 try replace F52 := F52.ma G120
 try replace F95 := F95.ma G120
 try replace F96 := F96.ma G120
 try replace F97 := F97.ma G120
 replace HG := HG.n1 G120
 have z123 := V.Fr.size G121
 try replace F_b := F_b.mb G121 hD_b
 try replace Fk2 := Fk2.ma G121
 try replace Fk36 := Fk36.ma G121
 try replace Fk43 := Fk43.ma G121
 try replace F52 := F52.ma G121
 try replace F95 := F95.ma G121
 try replace F96 := F96.ma G121
 try replace F97 := F97.ma G121
 replace HG := HG.n1 G121
 simp only [V.spliceL, V.cellsL] at F112
 refine V.nil ?_
 refine V.bN ?_
 refine V.tN ?_
 refine V.region ?_
 refine V.addN rfl rfl rfl rfl rfl V.lenA V.lenA ?_
 refine V.ru 1 ?_
 refine V.nt ?_
 refine V.rnd ?_
 refine V.seq ?_
 have z124 : w98.heap.size ≤ w113.heap.size := by omega
 try clear z118
 try clear z122
 try clear z123
 generalize hd5 : (rdN d4 1099511627776).2 = d5 at F110
 generalize hb5 : (b4 || decide (¬ (rdN d4 1099511627776).1.2 = 0)) = b5 at F111
 generalize hq5_0 : (rdN d4 1099511627776).1.1 = q5_0 at F112
 refine V.region ?_
 refine V.ru 1 ?_
 refine V.nt ?_
 refine V.seq ?_
 refine V.condY rfl rfl ?_
 refine V.skip ?_
 refine V.tN ?_
 refine V.seq ?_
 refine V.block ?_
 refine V.sr ?_
 refine V.step rfl rfl (V.elem_run T_ok rfl rfl sz67 rfl rfl (by decide) (by decide) _) ?_
 refine V.loadO T_ok Fk43 rfl rfl rfl rfl rfl ?_
 refine V.ru 1 ?_
 refine V.nt ?_
 refine V.region ?_
 refine V.ru 2 ?_
 refine V.call (tk_number (Ft := F111) (FX := F110) (Fx := F112) (off := 5) (hle := rfl) (n1 := by omega) (n2 := by omega) (n3 := by omega) (n4 := (by intro h; first | exact n5 h.1 | (have := h.1; have := h.2; omega))) (n5 := (by intro h; first | exact n5 h.1 | (have := h.1; have := h.2; omega)))) rfl rfl rfl ?_
 rintro _ w128 ⟨rfl, F125, F126, F127, G129⟩
 obtain ⟨w130, G131, G132⟩ := V.Fr.cut G129
 have z133 := V.Fr.size G131
 try replace F_b := F_b.mb G131 hD_b
 try replace Fk2 := Fk2.ma G131
 try replace Fk36 := Fk36.ma G131
 try replace Fk43 := Fk43.ma G131
 try replace F52 := F52.ma G131
 try replace F110 := F110.ma G131
 try replace F111 := F111.ma G131
 try replace F112 := F112.ma G131
 replace HG := HG.n1 G131
 obtain ⟨w134, G135, G136⟩ := V.Fr.two G132
 have z137 := V.Fr.size G135
 try replace F_b := F_b.mb G135 hD_b
 try replace Fk2 := Fk2.ma G135
 try replace Fk36 := Fk36.ma G135
 try replace Fk43 := Fk43.ma G135
 try replace F52 := F52.ma G135
 try replace F110 := F110.ma G135
 try replace F111 := F111.ma G135
 try replace F112 := F112.ma G135
 replace HG := HG.n1 G135
 have z138 := V.Fr.size G136
 try replace F_b := F_b.mb G136 hD_b
 try replace Fk2 := Fk2.ma G136
 try replace Fk36 := Fk36.ma G136
 try replace Fk43 := Fk43.ma G136
 try replace F52 := F52.ma G136
 try replace F110 := F110.ma G136
 try replace F111 := F111.ma G136
 try replace F112 := F112.ma G136
 replace HG := HG.n1 G136
 simp only [V.spliceL, V.cellsL] at F127
 refine V.nil ?_
 refine V.bN ?_
 refine V.tN ?_
 refine V.region ?_
 refine V.addN rfl rfl rfl rfl rfl V.lenA V.lenA ?_
 refine V.ru 1 ?_
 refine V.nt ?_
 refine V.rnd ?_
 refine V.seq ?_
 have z139 : w113.heap.size ≤ w128.heap.size := by omega
 try clear z133
 try clear z137
 try clear z138
 generalize hd6 : (rdN d5 1099511627776).2 = d6 at F125
 generalize hb6 : (b5 || decide (¬ (rdN d5 1099511627776).1.2 = 0)) = b6 at F126
 generalize hq6_0 : (rdN d5 1099511627776).1.1 = q6_0 at F127
 refine V.region ?_
 refine V.ru 1 ?_
 refine V.nt ?_
 refine V.seq ?_
 refine V.condN rfl rfl ?_
 refine V.exit ?_
 refine V.tX ?_
 refine V.tX ?_
 refine V.bE ?_
 refine V.tN ?_
 refine V.sr ?_
 refine V.ru 3 ?_
 refine V.call (tk_text (Ft := F126) (FX := F125) (Fx := F127) (off := 6) (hle := rfl) (n1 := by omega) (n2 := by omega) (n3 := by omega) (n4 := (by intro h; first | exact n5 h.1 | (have := h.1; have := h.2; omega))) (n5 := (by intro h; first | exact n5 h.1 | (have := h.1; have := h.2; omega)))) rfl rfl rfl ?_
 rintro _ w143 ⟨rfl, F140, F141, F142, G144⟩
 obtain ⟨w145, G146, G147⟩ := V.Fr.cut G144
 have z148 := V.Fr.size G146
 try replace F_b := F_b.mb G146 hD_b
 try replace Fk2 := Fk2.ma G146
 try replace Fk36 := Fk36.ma G146
 try replace Fk43 := Fk43.ma G146
 try replace F52 := F52.ma G146
 try replace F125 := F125.ma G146
 try replace F126 := F126.ma G146
 try replace F127 := F127.ma G146
 replace HG := HG.n1 G146
 obtain ⟨w149, G150, G151⟩ := V.Fr.two G147
 have z152 := V.Fr.size G150
 try replace F_b := F_b.mb G150 hD_b
 try replace Fk2 := Fk2.ma G150
 try replace Fk36 := Fk36.ma G150
 try replace Fk43 := Fk43.ma G150
 try replace F52 := F52.ma G150
 try replace F125 := F125.ma G150
 try replace F126 := F126.ma G150
 try replace F127 := F127.ma G150
 replace HG := HG.n1 G150
 have z153 := V.Fr.size G151
 try replace F_b := F_b.mb G151 hD_b
 try replace Fk2 := Fk2.ma G151
 try replace Fk36 := Fk36.ma G151
 try replace Fk43 := Fk43.ma G151
 try replace F52 := F52.ma G151
 try replace F125 := F125.ma G151
 try replace F126 := F126.ma G151
 try replace F127 := F127.ma G151
 replace HG := HG.n1 G151
 simp only [V.spliceL, V.cellsL] at F142
 refine V.nt ?_
 refine V.seq ?_
 have z154 : w128.heap.size ≤ w143.heap.size := by omega
 try clear z148
 try clear z152
 try clear z153
 generalize hd7 : (rdT d6 65536).2 = d7 at F140
 generalize hb7 : (b6 || decide (¬ (rdT d6 65536).1.2 = 0)) = b7 at F141
 generalize hq7_0 : S (rdT d6 65536).1.1 = q7_0 at F142
 have hz7 := szT hq7_0
 refine V.region ?_
 refine V.ru 3 ?_
 refine V.call (tk_stamp (Ft := F141) (FX := F140) (Fx := F142) (off := 7) (hle := rfl) (n1 := by omega) (n2 := by omega) (n3 := by omega) (n4 := (by intro h; first | exact n5 h.1 | (have := h.1; have := h.2; omega))) (n5 := (by intro h; first | exact n5 h.1 | (have := h.1; have := h.2; omega)))) rfl rfl rfl ?_
 rintro _ w158 ⟨rfl, F155, F156, F157, G159⟩
 obtain ⟨w160, G161, G162⟩ := V.Fr.cut G159
 have z163 := V.Fr.size G161
 try replace F_b := F_b.mb G161 hD_b
 try replace Fk2 := Fk2.ma G161
 try replace Fk36 := Fk36.ma G161
 try replace Fk43 := Fk43.ma G161
 try replace F52 := F52.ma G161
 try replace F140 := F140.ma G161
 try replace F141 := F141.ma G161
 try replace F142 := F142.ma G161
 replace HG := HG.n1 G161
 obtain ⟨w164, G165, G166⟩ := V.Fr.two G162
 have z167 := V.Fr.size G165
 try replace F_b := F_b.mb G165 hD_b
 try replace Fk2 := Fk2.ma G165
 try replace Fk36 := Fk36.ma G165
 try replace Fk43 := Fk43.ma G165
 try replace F52 := F52.ma G165
 try replace F140 := F140.ma G165
 try replace F141 := F141.ma G165
 try replace F142 := F142.ma G165
 replace HG := HG.n1 G165
 have z168 := V.Fr.size G166
 try replace F_b := F_b.mb G166 hD_b
 try replace Fk2 := Fk2.ma G166
 try replace Fk36 := Fk36.ma G166
 try replace Fk43 := Fk43.ma G166
 try replace F52 := F52.ma G166
 try replace F140 := F140.ma G166
 try replace F141 := F141.ma G166
 try replace F142 := F142.ma G166
 replace HG := HG.n1 G166
 simp only [V.spliceL, V.cellsL] at F157
 refine V.nt ?_
 refine V.seq ?_
 have z169 : w143.heap.size ≤ w158.heap.size := by omega
 try clear z163
 try clear z167
 try clear z168
 generalize hd8 : (rdS d7).2 = d8 at F155
 generalize hb8 : (b7 || decide (¬ (rdS d7).1.2 = 0)) = b8 at F156
 generalize hq8_0 : (rdS d7).1.1.1 = q8_0 at F157
 generalize hq8_1 : (rdS d7).1.1.2 = q8_1 at F157
 refine V.region ?_
 refine V.ru 2 ?_
 refine V.call (tk_number (Ft := F156) (FX := F155) (Fx := F157) (off := 9) (hle := rfl) (n1 := by omega) (n2 := by omega) (n3 := by omega) (n4 := (by intro h; first | exact n5 h.1 | (have := h.1; have := h.2; omega))) (n5 := (by intro h; first | exact n5 h.1 | (have := h.1; have := h.2; omega)))) rfl rfl rfl ?_
 rintro _ w173 ⟨rfl, F170, F171, F172, G174⟩
 obtain ⟨w175, G176, G177⟩ := V.Fr.cut G174
 have z178 := V.Fr.size G176
 try replace F_b := F_b.mb G176 hD_b
 try replace Fk2 := Fk2.ma G176
 try replace Fk36 := Fk36.ma G176
 try replace Fk43 := Fk43.ma G176
 try replace F52 := F52.ma G176
 try replace F155 := F155.ma G176
 try replace F156 := F156.ma G176
 try replace F157 := F157.ma G176
 replace HG := HG.n1 G176
 obtain ⟨w179, G180, G181⟩ := V.Fr.two G177
 have z182 := V.Fr.size G180
 try replace F_b := F_b.mb G180 hD_b
 try replace Fk2 := Fk2.ma G180
 try replace Fk36 := Fk36.ma G180
 try replace Fk43 := Fk43.ma G180
 try replace F52 := F52.ma G180
 try replace F155 := F155.ma G180
 try replace F156 := F156.ma G180
 try replace F157 := F157.ma G180
 replace HG := HG.n1 G180
 have z183 := V.Fr.size G181
 try replace F_b := F_b.mb G181 hD_b
 try replace Fk2 := Fk2.ma G181
 try replace Fk36 := Fk36.ma G181
 try replace Fk43 := Fk43.ma G181
 try replace F52 := F52.ma G181
 try replace F155 := F155.ma G181
 try replace F156 := F156.ma G181
 try replace F157 := F157.ma G181
 replace HG := HG.n1 G181
 simp only [V.spliceL, V.cellsL] at F172
 refine V.nt ?_
 refine V.seq ?_
 refine V.seq ?_
 have z184 : w158.heap.size ≤ w173.heap.size := by omega
 try clear z178
 try clear z182
 try clear z183
 generalize hd9 : (rdN d8 1099511627776).2 = d9 at F170
 generalize hb9 : (b8 || decide (¬ (rdN d8 1099511627776).1.2 = 0)) = b9 at F171
 generalize hq9_0 : (rdN d8 1099511627776).1.1 = q9_0 at F172
 refine V.region ?_
 refine V.ru 5 ?_
 refine V.mkSlice T_ok zero75 rfl rfl sz75 rfl rfl rfl rfl rfl rfl ?_
 rintro k185 w188 s190 s191 G189 Fk186
 have z192 := V.Fr.size G189
 try replace F_b := F_b.gr G189
 try replace Fk2 := Fk2.gr G189
 try replace Fk36 := Fk36.gr G189
 try replace Fk43 := Fk43.gr G189
 try replace F52 := F52.gr G189
 try replace F170 := F170.gr G189
 try replace F171 := F171.gr G189
 try replace F172 := F172.gr G189
 replace HG := HG.grow G189
 refine V.ru 2 ?_
 refine V.nt ?_
 refine V.block ?_
 refine V.loopR 4 ?_
 refine V.rnd ?_
 refine V.sr ?_
 refine V.ru 1 ?_
 refine V.nt ?_
 refine V.seq ?_
 refine V.condY rfl rfl ?_
 refine V.skip ?_
 refine V.tN ?_
 refine V.seq ?_
 refine V.block ?_
 refine V.sr ?_
 refine V.step rfl rfl (V.elem_run T_ok rfl rfl sz75 rfl rfl (by decide) (by decide) _) ?_
 refine V.loadO T_ok Fk186 rfl rfl rfl rfl rfl ?_
 refine V.ru 1 ?_
 refine V.nt ?_
 refine V.region ?_
 refine V.ru 2 ?_
 refine V.call (tk_text (Ft := F171) (FX := F170) (Fx := F172) (off := 10) (hle := rfl) (n1 := by omega) (n2 := by omega) (n3 := by omega) (n4 := (by intro h; first | exact n5 h.1 | (have := h.1; have := h.2; omega))) (n5 := (by intro h; first | exact n5 h.1 | (have := h.1; have := h.2; omega)))) rfl rfl rfl ?_
 rintro _ w196 ⟨rfl, F193, F194, F195, G197⟩
 obtain ⟨w198, G199, G200⟩ := V.Fr.cut G197
 have z201 := V.Fr.size G199
 try replace F_b := F_b.mb G199 hD_b
 try replace Fk2 := Fk2.ma G199
 try replace Fk36 := Fk36.ma G199
 try replace Fk43 := Fk43.ma G199
 try replace F52 := F52.ma G199
 try replace F170 := F170.ma G199
 try replace F171 := F171.ma G199
 try replace F172 := F172.ma G199
 try replace Fk186 := Fk186.ma G199
 replace HG := HG.n1 G199
 obtain ⟨w202, G203, G204⟩ := V.Fr.two G200
 have z205 := V.Fr.size G203
 try replace F_b := F_b.mb G203 hD_b
 try replace Fk2 := Fk2.ma G203
 try replace Fk36 := Fk36.ma G203
 try replace Fk43 := Fk43.ma G203
 try replace F52 := F52.ma G203
 try replace F170 := F170.ma G203
 try replace F171 := F171.ma G203
 try replace F172 := F172.ma G203
 try replace Fk186 := Fk186.ma G203
 replace HG := HG.n1 G203
 have z206 := V.Fr.size G204
 try replace F_b := F_b.mb G204 hD_b
 try replace Fk2 := Fk2.ma G204
 try replace Fk36 := Fk36.ma G204
 try replace Fk43 := Fk43.ma G204
 try replace F52 := F52.ma G204
 try replace F170 := F170.ma G204
 try replace F171 := F171.ma G204
 try replace F172 := F172.ma G204
 try replace Fk186 := Fk186.ma G204
 replace HG := HG.n1 G204
 simp only [V.spliceL, V.cellsL] at F195
 refine V.nil ?_
 refine V.bN ?_
 refine V.tN ?_
 refine V.region ?_
 refine V.addN rfl rfl rfl rfl rfl V.lenA V.lenA ?_
 refine V.ru 1 ?_
 refine V.nt ?_
 refine V.rnd ?_
 refine V.seq ?_
 have z207 : w188.heap.size ≤ w196.heap.size := by omega
 try clear z201
 try clear z205
 try clear z206
 generalize hd10 : (rdT d9 65536).2 = d10 at F193
 generalize hb10 : (b9 || decide (¬ (rdT d9 65536).1.2 = 0)) = b10 at F194
 generalize hq10_0 : S (rdT d9 65536).1.1 = q10_0 at F195
 have hz10 := szT hq10_0
 refine V.region ?_
 refine V.ru 1 ?_
 refine V.nt ?_
 refine V.seq ?_
 refine V.condY rfl rfl ?_
 refine V.skip ?_
 refine V.tN ?_
 refine V.seq ?_
 refine V.block ?_
 refine V.sr ?_
 refine V.step rfl rfl (V.elem_run T_ok rfl rfl sz75 rfl rfl (by decide) (by decide) _) ?_
 refine V.loadO T_ok Fk186 rfl rfl rfl rfl rfl ?_
 refine V.ru 1 ?_
 refine V.nt ?_
 refine V.region ?_
 refine V.ru 2 ?_
 refine V.call (tk_text (Ft := F194) (FX := F193) (Fx := F195) (off := 11) (hle := rfl) (n1 := by omega) (n2 := by omega) (n3 := by omega) (n4 := (by intro h; first | exact n5 h.1 | (have := h.1; have := h.2; omega))) (n5 := (by intro h; first | exact n5 h.1 | (have := h.1; have := h.2; omega)))) rfl rfl rfl ?_
 rintro _ w211 ⟨rfl, F208, F209, F210, G212⟩
 obtain ⟨w213, G214, G215⟩ := V.Fr.cut G212
 have z216 := V.Fr.size G214
 try replace F_b := F_b.mb G214 hD_b
 try replace Fk2 := Fk2.ma G214
 try replace Fk36 := Fk36.ma G214
 try replace Fk43 := Fk43.ma G214
 try replace F52 := F52.ma G214
 try replace Fk186 := Fk186.ma G214
 try replace F193 := F193.ma G214
 try replace F194 := F194.ma G214
 try replace F195 := F195.ma G214
 replace HG := HG.n1 G214
 obtain ⟨w217, G218, G219⟩ := V.Fr.two G215
 have z220 := V.Fr.size G218
 try replace F_b := F_b.mb G218 hD_b
 try replace Fk2 := Fk2.ma G218
 try replace Fk36 := Fk36.ma G218
 try replace Fk43 := Fk43.ma G218
 try replace F52 := F52.ma G218
 try replace Fk186 := Fk186.ma G218
 try replace F193 := F193.ma G218
 try replace F194 := F194.ma G218
 try replace F195 := F195.ma G218
 replace HG := HG.n1 G218
 have z221 := V.Fr.size G219
 try replace F_b := F_b.mb G219 hD_b
 try replace Fk2 := Fk2.ma G219
 try replace Fk36 := Fk36.ma G219
 try replace Fk43 := Fk43.ma G219
 try replace F52 := F52.ma G219
 try replace Fk186 := Fk186.ma G219
 try replace F193 := F193.ma G219
 try replace F194 := F194.ma G219
 try replace F195 := F195.ma G219
 replace HG := HG.n1 G219
 simp only [V.spliceL, V.cellsL] at F210
 refine V.nil ?_
 refine V.bN ?_
 refine V.tN ?_
 refine V.region ?_
 refine V.addN rfl rfl rfl rfl rfl V.lenA V.lenA ?_
 refine V.ru 1 ?_
 refine V.nt ?_
 refine V.rnd ?_
 refine V.seq ?_
 have z222 : w196.heap.size ≤ w211.heap.size := by omega
 try clear z216
 try clear z220
 try clear z221
 generalize hd11 : (rdT d10 65536).2 = d11 at F208
 generalize hb11 : (b10 || decide (¬ (rdT d10 65536).1.2 = 0)) = b11 at F209
 generalize hq11_0 : S (rdT d10 65536).1.1 = q11_0 at F210
 have hz11 := szT hq11_0
 refine V.region ?_
 refine V.ru 1 ?_
 refine V.nt ?_
 refine V.seq ?_
 refine V.condY rfl rfl ?_
 refine V.skip ?_
 refine V.tN ?_
 refine V.seq ?_
 refine V.block ?_
 refine V.sr ?_
 refine V.step rfl rfl (V.elem_run T_ok rfl rfl sz75 rfl rfl (by decide) (by decide) _) ?_
 refine V.loadO T_ok Fk186 rfl rfl rfl rfl rfl ?_
 refine V.ru 1 ?_
 refine V.nt ?_
 refine V.region ?_
 refine V.ru 2 ?_
 refine V.call (tk_text (Ft := F209) (FX := F208) (Fx := F210) (off := 12) (hle := rfl) (n1 := by omega) (n2 := by omega) (n3 := by omega) (n4 := (by intro h; first | exact n5 h.1 | (have := h.1; have := h.2; omega))) (n5 := (by intro h; first | exact n5 h.1 | (have := h.1; have := h.2; omega)))) rfl rfl rfl ?_
 rintro _ w226 ⟨rfl, F223, F224, F225, G227⟩
 obtain ⟨w228, G229, G230⟩ := V.Fr.cut G227
 have z231 := V.Fr.size G229
 try replace F_b := F_b.mb G229 hD_b
 try replace Fk2 := Fk2.ma G229
 try replace Fk36 := Fk36.ma G229
 try replace Fk43 := Fk43.ma G229
 try replace F52 := F52.ma G229
 try replace Fk186 := Fk186.ma G229
 try replace F208 := F208.ma G229
 try replace F209 := F209.ma G229
 try replace F210 := F210.ma G229
 replace HG := HG.n1 G229
 obtain ⟨w232, G233, G234⟩ := V.Fr.two G230
 have z235 := V.Fr.size G233
 try replace F_b := F_b.mb G233 hD_b
 try replace Fk2 := Fk2.ma G233
 try replace Fk36 := Fk36.ma G233
 try replace Fk43 := Fk43.ma G233
 try replace F52 := F52.ma G233
 try replace Fk186 := Fk186.ma G233
 try replace F208 := F208.ma G233
 try replace F209 := F209.ma G233
 try replace F210 := F210.ma G233
 replace HG := HG.n1 G233
 have z236 := V.Fr.size G234
 try replace F_b := F_b.mb G234 hD_b
 try replace Fk2 := Fk2.ma G234
 try replace Fk36 := Fk36.ma G234
 try replace Fk43 := Fk43.ma G234
 try replace F52 := F52.ma G234
 try replace Fk186 := Fk186.ma G234
 try replace F208 := F208.ma G234
 try replace F209 := F209.ma G234
 try replace F210 := F210.ma G234
 replace HG := HG.n1 G234
 simp only [V.spliceL, V.cellsL] at F225
 refine V.nil ?_
 refine V.bN ?_
 refine V.tN ?_
 refine V.region ?_
 refine V.addN rfl rfl rfl rfl rfl V.lenA V.lenA ?_
 refine V.ru 1 ?_
 refine V.nt ?_
 refine V.rnd ?_
 refine V.seq ?_
 have z237 : w211.heap.size ≤ w226.heap.size := by omega
 try clear z231
 try clear z235
 try clear z236
 generalize hd12 : (rdT d11 65536).2 = d12 at F223
 generalize hb12 : (b11 || decide (¬ (rdT d11 65536).1.2 = 0)) = b12 at F224
 generalize hq12_0 : S (rdT d11 65536).1.1 = q12_0 at F225
 have hz12 := szT hq12_0
 refine V.region ?_
 refine V.ru 1 ?_
 refine V.nt ?_
 refine V.seq ?_
 refine V.condN rfl rfl ?_
 refine V.exit ?_
 refine V.tX ?_
 refine V.tX ?_
 refine V.bE ?_
 refine V.tN ?_
 refine V.sr ?_
 refine V.ru 2 ?_
 refine V.call (tk_flag (Ft := F224) (FX := F223) (Fx := F225) (off := 13) (hle := rfl) (n1 := by omega) (n2 := by omega) (n3 := by omega) (n4 := (by intro h; first | exact n5 h.1 | (have := h.1; have := h.2; omega))) (n5 := (by intro h; first | exact n5 h.1 | (have := h.1; have := h.2; omega)))) rfl rfl rfl ?_
 rintro _ w241 ⟨rfl, F238, F239, F240, G242⟩
 obtain ⟨w243, G244, G245⟩ := V.Fr.cut G242
 have z246 := V.Fr.size G244
 try replace F_b := F_b.mb G244 hD_b
 try replace Fk2 := Fk2.ma G244
 try replace Fk36 := Fk36.ma G244
 try replace Fk43 := Fk43.ma G244
 try replace F52 := F52.ma G244
 try replace Fk186 := Fk186.ma G244
 try replace F223 := F223.ma G244
 try replace F224 := F224.ma G244
 try replace F225 := F225.ma G244
 replace HG := HG.n1 G244
 obtain ⟨w247, G248, G249⟩ := V.Fr.two G245
 have z250 := V.Fr.size G248
 try replace F_b := F_b.mb G248 hD_b
 try replace Fk2 := Fk2.ma G248
 try replace Fk36 := Fk36.ma G248
 try replace Fk43 := Fk43.ma G248
 try replace F52 := F52.ma G248
 try replace Fk186 := Fk186.ma G248
 try replace F223 := F223.ma G248
 try replace F224 := F224.ma G248
 try replace F225 := F225.ma G248
 replace HG := HG.n1 G248
 have z251 := V.Fr.size G249
 try replace F_b := F_b.mb G249 hD_b
 try replace Fk2 := Fk2.ma G249
 try replace Fk36 := Fk36.ma G249
 try replace Fk43 := Fk43.ma G249
 try replace F52 := F52.ma G249
 try replace Fk186 := Fk186.ma G249
 try replace F223 := F223.ma G249
 try replace F224 := F224.ma G249
 try replace F225 := F225.ma G249
 replace HG := HG.n1 G249
 simp only [V.spliceL, V.cellsL] at F240
 refine V.nt ?_
 refine V.seq ?_
 have z252 : w226.heap.size ≤ w241.heap.size := by omega
 try clear z246
 try clear z250
 try clear z251
 generalize hd13 : (rdF d12).2 = d13 at F238
 generalize hb13 : (b12 || decide (¬ (rdF d12).1.2 = 0)) = b13 at F239
 generalize hq13_0 : (rdF d12).1.1 = q13_0 at F240
 refine V.region ?_
 refine V.ru 2 ?_
 refine V.call (tk_stamp (Ft := F239) (FX := F238) (Fx := F240) (off := 14) (hle := rfl) (n1 := by omega) (n2 := by omega) (n3 := by omega) (n4 := (by intro h; first | exact n5 h.1 | (have := h.1; have := h.2; omega))) (n5 := (by intro h; first | exact n5 h.1 | (have := h.1; have := h.2; omega)))) rfl rfl rfl ?_
 rintro _ w256 ⟨rfl, F253, F254, F255, G257⟩
 obtain ⟨w258, G259, G260⟩ := V.Fr.cut G257
 have z261 := V.Fr.size G259
 try replace F_b := F_b.mb G259 hD_b
 try replace Fk2 := Fk2.ma G259
 try replace Fk36 := Fk36.ma G259
 try replace Fk43 := Fk43.ma G259
 try replace F52 := F52.ma G259
 try replace Fk186 := Fk186.ma G259
 try replace F238 := F238.ma G259
 try replace F239 := F239.ma G259
 try replace F240 := F240.ma G259
 replace HG := HG.n1 G259
 obtain ⟨w262, G263, G264⟩ := V.Fr.two G260
 have z265 := V.Fr.size G263
 try replace F_b := F_b.mb G263 hD_b
 try replace Fk2 := Fk2.ma G263
 try replace Fk36 := Fk36.ma G263
 try replace Fk43 := Fk43.ma G263
 try replace F52 := F52.ma G263
 try replace Fk186 := Fk186.ma G263
 try replace F238 := F238.ma G263
 try replace F239 := F239.ma G263
 try replace F240 := F240.ma G263
 replace HG := HG.n1 G263
 have z266 := V.Fr.size G264
 try replace F_b := F_b.mb G264 hD_b
 try replace Fk2 := Fk2.ma G264
 try replace Fk36 := Fk36.ma G264
 try replace Fk43 := Fk43.ma G264
 try replace F52 := F52.ma G264
 try replace Fk186 := Fk186.ma G264
 try replace F238 := F238.ma G264
 try replace F239 := F239.ma G264
 try replace F240 := F240.ma G264
 replace HG := HG.n1 G264
 simp only [V.spliceL, V.cellsL] at F255
 refine V.nt ?_
 refine V.seq ?_
 have z267 : w241.heap.size ≤ w256.heap.size := by omega
 try clear z261
 try clear z265
 try clear z266
 generalize hd14 : (rdS d13).2 = d14 at F253
 generalize hb14 : (b13 || decide (¬ (rdS d13).1.2 = 0)) = b14 at F254
 generalize hq14_0 : (rdS d13).1.1.1 = q14_0 at F255
 generalize hq14_1 : (rdS d13).1.1.2 = q14_1 at F255
 refine V.region ?_
 refine V.ru 2 ?_
 refine V.call (tk_stamp (Ft := F254) (FX := F253) (Fx := F255) (off := 16) (hle := rfl) (n1 := by omega) (n2 := by omega) (n3 := by omega) (n4 := (by intro h; first | exact n5 h.1 | (have := h.1; have := h.2; omega))) (n5 := (by intro h; first | exact n5 h.1 | (have := h.1; have := h.2; omega)))) rfl rfl rfl ?_
 rintro _ w271 ⟨rfl, F268, F269, F270, G272⟩
 obtain ⟨w273, G274, G275⟩ := V.Fr.cut G272
 have z276 := V.Fr.size G274
 try replace F_b := F_b.mb G274 hD_b
 try replace Fk2 := Fk2.ma G274
 try replace Fk36 := Fk36.ma G274
 try replace Fk43 := Fk43.ma G274
 try replace F52 := F52.ma G274
 try replace Fk186 := Fk186.ma G274
 try replace F253 := F253.ma G274
 try replace F254 := F254.ma G274
 try replace F255 := F255.ma G274
 replace HG := HG.n1 G274
 obtain ⟨w277, G278, G279⟩ := V.Fr.two G275
 have z280 := V.Fr.size G278
 try replace F_b := F_b.mb G278 hD_b
 try replace Fk2 := Fk2.ma G278
 try replace Fk36 := Fk36.ma G278
 try replace Fk43 := Fk43.ma G278
 try replace F52 := F52.ma G278
 try replace Fk186 := Fk186.ma G278
 try replace F253 := F253.ma G278
 try replace F254 := F254.ma G278
 try replace F255 := F255.ma G278
 replace HG := HG.n1 G278
 have z281 := V.Fr.size G279
 try replace F_b := F_b.mb G279 hD_b
 try replace Fk2 := Fk2.ma G279
 try replace Fk36 := Fk36.ma G279
 try replace Fk43 := Fk43.ma G279
 try replace F52 := F52.ma G279
 try replace Fk186 := Fk186.ma G279
 try replace F253 := F253.ma G279
 try replace F254 := F254.ma G279
 try replace F255 := F255.ma G279
 replace HG := HG.n1 G279
 simp only [V.spliceL, V.cellsL] at F270
 refine V.nt ?_
 refine V.seq ?_
 have z282 : w256.heap.size ≤ w271.heap.size := by omega
 try clear z276
 try clear z280
 try clear z281
 generalize hd15 : (rdS d14).2 = d15 at F268
 generalize hb15 : (b14 || decide (¬ (rdS d14).1.2 = 0)) = b15 at F269
 generalize hq15_0 : (rdS d14).1.1.1 = q15_0 at F270
 generalize hq15_1 : (rdS d14).1.1.2 = q15_1 at F270
 refine V.region ?_
 refine V.ru 2 ?_
 refine V.call (tk_flag (Ft := F269) (FX := F268) (Fx := F270) (off := 18) (hle := rfl) (n1 := by omega) (n2 := by omega) (n3 := by omega) (n4 := (by intro h; first | exact n5 h.1 | (have := h.1; have := h.2; omega))) (n5 := (by intro h; first | exact n5 h.1 | (have := h.1; have := h.2; omega)))) rfl rfl rfl ?_
 rintro _ w286 ⟨rfl, F283, F284, F285, G287⟩
 obtain ⟨w288, G289, G290⟩ := V.Fr.cut G287
 have z291 := V.Fr.size G289
 try replace F_b := F_b.mb G289 hD_b
 try replace Fk2 := Fk2.ma G289
 try replace Fk36 := Fk36.ma G289
 try replace Fk43 := Fk43.ma G289
 try replace F52 := F52.ma G289
 try replace Fk186 := Fk186.ma G289
 try replace F268 := F268.ma G289
 try replace F269 := F269.ma G289
 try replace F270 := F270.ma G289
 replace HG := HG.n1 G289
 obtain ⟨w292, G293, G294⟩ := V.Fr.two G290
 have z295 := V.Fr.size G293
 try replace F_b := F_b.mb G293 hD_b
 try replace Fk2 := Fk2.ma G293
 try replace Fk36 := Fk36.ma G293
 try replace Fk43 := Fk43.ma G293
 try replace F52 := F52.ma G293
 try replace Fk186 := Fk186.ma G293
 try replace F268 := F268.ma G293
 try replace F269 := F269.ma G293
 try replace F270 := F270.ma G293
 replace HG := HG.n1 G293
 have z296 := V.Fr.size G294
 try replace F_b := F_b.mb G294 hD_b
 try replace Fk2 := Fk2.ma G294
 try replace Fk36 := Fk36.ma G294
 try replace Fk43 := Fk43.ma G294
 try replace F52 := F52.ma G294
 try replace Fk186 := Fk186.ma G294
 try replace F268 := F268.ma G294
 try replace F269 := F269.ma G294
 try replace F270 := F270.ma G294
 replace HG := HG.n1 G294
 simp only [V.spliceL, V.cellsL] at F285
 refine V.nt ?_
 refine V.seq ?_
 have z297 : w271.heap.size ≤ w286.heap.size := by omega
 try clear z291
 try clear z295
 try clear z296
 generalize hd16 : (rdF d15).2 = d16 at F283
 generalize hb16 : (b15 || decide (¬ (rdF d15).1.2 = 0)) = b16 at F284
 generalize hq16_0 : (rdF d15).1.1 = q16_0 at F285
 refine V.region ?_
 refine V.ru 2 ?_
 refine V.call (tk_flag (Ft := F284) (FX := F283) (Fx := F285) (off := 19) (hle := rfl) (n1 := by omega) (n2 := by omega) (n3 := by omega) (n4 := (by intro h; first | exact n5 h.1 | (have := h.1; have := h.2; omega))) (n5 := (by intro h; first | exact n5 h.1 | (have := h.1; have := h.2; omega)))) rfl rfl rfl ?_
 rintro _ w301 ⟨rfl, F298, F299, F300, G302⟩
 obtain ⟨w303, G304, G305⟩ := V.Fr.cut G302
 have z306 := V.Fr.size G304
 try replace F_b := F_b.mb G304 hD_b
 try replace Fk2 := Fk2.ma G304
 try replace Fk36 := Fk36.ma G304
 try replace Fk43 := Fk43.ma G304
 try replace F52 := F52.ma G304
 try replace Fk186 := Fk186.ma G304
 try replace F283 := F283.ma G304
 try replace F284 := F284.ma G304
 try replace F285 := F285.ma G304
 replace HG := HG.n1 G304
 obtain ⟨w307, G308, G309⟩ := V.Fr.two G305
 have z310 := V.Fr.size G308
 try replace F_b := F_b.mb G308 hD_b
 try replace Fk2 := Fk2.ma G308
 try replace Fk36 := Fk36.ma G308
 try replace Fk43 := Fk43.ma G308
 try replace F52 := F52.ma G308
 try replace Fk186 := Fk186.ma G308
 try replace F283 := F283.ma G308
 try replace F284 := F284.ma G308
 try replace F285 := F285.ma G308
 replace HG := HG.n1 G308
 have z311 := V.Fr.size G309
 try replace F_b := F_b.mb G309 hD_b
 try replace Fk2 := Fk2.ma G309
 try replace Fk36 := Fk36.ma G309
 try replace Fk43 := Fk43.ma G309
 try replace F52 := F52.ma G309
 try replace Fk186 := Fk186.ma G309
 try replace F283 := F283.ma G309
 try replace F284 := F284.ma G309
 try replace F285 := F285.ma G309
 replace HG := HG.n1 G309
 simp only [V.spliceL, V.cellsL] at F300
 refine V.nt ?_
 refine V.seq ?_
 refine V.seq ?_
 have z312 : w286.heap.size ≤ w301.heap.size := by omega
 try clear z306
 try clear z310
 try clear z311
 generalize hd17 : (rdF d16).2 = d17 at F298
 generalize hb17 : (b16 || decide (¬ (rdF d16).1.2 = 0)) = b17 at F299
 generalize hq17_0 : (rdF d16).1.1 = q17_0 at F300
 refine V.region ?_
 refine V.ru 1 ?_
 refine V.call (tk_number (Ft := F299) (FX := F298) (Fx := Fk36) (off := 0) (hle := rfl) (n1 := by omega) (n2 := by omega) (n3 := by omega) (n4 := (by intro h; first | exact n5 h.1 | (have := h.1; have := h.2; omega))) (n5 := (by intro h; first | exact n5 h.1 | (have := h.1; have := h.2; omega)))) rfl rfl rfl ?_
 rintro _ w316 ⟨rfl, F313, F314, F315, G317⟩
 obtain ⟨w318, G319, G320⟩ := V.Fr.cut G317
 have z321 := V.Fr.size G319
 try replace F_b := F_b.mb G319 hD_b
 try replace Fk2 := Fk2.ma G319
 try replace Fk36 := Fk36.ma G319
 try replace Fk43 := Fk43.ma G319
 try replace F52 := F52.ma G319
 try replace Fk186 := Fk186.ma G319
 try replace F298 := F298.ma G319
 try replace F299 := F299.ma G319
 try replace F300 := F300.ma G319
 replace HG := HG.n1 G319
 obtain ⟨w322, G323, G324⟩ := V.Fr.two G320
 have z325 := V.Fr.size G323
 try replace F_b := F_b.mb G323 hD_b
 try replace Fk2 := Fk2.ma G323
 try replace Fk36 := Fk36.ma G323
 try replace Fk43 := Fk43.ma G323
 try replace F52 := F52.ma G323
 try replace Fk186 := Fk186.ma G323
 try replace F298 := F298.ma G323
 try replace F299 := F299.ma G323
 try replace F300 := F300.ma G323
 replace HG := HG.n1 G323
 have z326 := V.Fr.size G324
 try replace F_b := F_b.mb G324 hD_b
 try replace Fk2 := Fk2.ma G324
 try replace Fk36 := Fk36.ma G324
 try replace Fk43 := Fk43.ma G324
 try replace F52 := F52.ma G324
 try replace Fk186 := Fk186.ma G324
 try replace F298 := F298.ma G324
 try replace F299 := F299.ma G324
 try replace F300 := F300.ma G324
 replace HG := HG.n1 G324
 simp only [V.spliceL, V.cellsL] at F315
 refine V.nt ?_
 refine V.block ?_
 have z327 : w301.heap.size ≤ w316.heap.size := by omega
 try clear z321
 try clear z325
 try clear z326
 generalize hd18 : (rdN d17 1099511627776).2 = d18 at F313
 generalize hb18 : (b17 || decide (¬ (rdN d17 1099511627776).1.2 = 0)) = b18 at F314
 generalize hq18_0 : (rdN d17 1099511627776).1.1 = q18_0 at F315
 have hR : decAll b = decEnd q1_0 q2_0 q3_0 q4_0 q5_0 q6_0 q7_0 q8_0 q8_1 q9_0 q10_0 q11_0 q12_0 q13_0 q14_0 q14_1 q15_0 q15_1 q16_0 q17_0 (wrL q18_0.toNat b18 d18 []) := by
  unfold decAll; rw [kN_eq hq1_0 hb1 hd1, kN_eq hq2_0 hb2 hd2, kN_eq hq3_0 hb3 hd3, kN_eq hq4_0 hb4 hd4, kN_eq hq5_0 hb5 hd5, kN_eq hq6_0 hb6 hd6, kT_eq hq7_0 hb7 hd7, kS_eq hq8_0 hq8_1 hb8 hd8, kN_eq hq9_0 hb9 hd9, kT_eq hq10_0 hb10 hd10, kT_eq hq11_0 hb11 hd11, kT_eq hq12_0 hb12 hd12, kF_eq hq13_0 hb13 hd13, kS_eq hq14_0 hq14_1 hb14 hd14, kS_eq hq15_0 hq15_1 hb15 hd15, kF_eq hq16_0 hb16 hd16, kF_eq hq17_0 hb17 hd17, kN_eq hq18_0 hb18 hd18]
 have hrn := rngN hq18_0
 clear hq1_0
 clear hb1
 clear hd1
 clear hq2_0
 clear hb2
 clear hd2
 clear hq3_0
 clear hb3
 clear hd3
 clear hq4_0
 clear hb4
 clear hd4
 clear hq5_0
 clear hb5
 clear hd5
 clear hq6_0
 clear hb6
 clear hd6
 clear hq7_0
 clear hb7
 clear hd7
 clear hq8_0
 clear hq8_1
 clear hb8
 clear hd8
 clear hq9_0
 clear hb9
 clear hd9
 clear hq10_0
 clear hb10
 clear hd10
 clear hq11_0
 clear hb11
 clear hd11
 clear hq12_0
 clear hb12
 clear hd12
 clear hq13_0
 clear hb13
 clear hd13
 clear hq14_0
 clear hq14_1
 clear hb14
 clear hd14
 clear hq15_0
 clear hq15_1
 clear hb15
 clear hd15
 clear hq16_0
 clear hb16
 clear hd16
 clear hq17_0
 clear hb17
 clear hd17
 clear hq18_0
 clear hb18
 clear hd18
 refine V.loopM (fun m e v329 => Fr [] w v329 ∧ w316.heap.size ≤ v329.heap.size ∧ Sl V.Cod.byte v329 D_b a_b c_b b ∧ Cells v329 k1 [.int .i64 0, .int .i64 0, .int .i64 0, .int .i64 0, .int .i64 0, .int .i64 0, .string ByteArray.empty, .int .i64 0, .int .i64 0, .int .i64 0, .string ByteArray.empty, .string ByteArray.empty, .string ByteArray.empty, .bool false, .int .i64 0, .int .i64 0, .int .i64 0, .int .i64 0, .bool false, .bool false, .slice none 0 0, .int .i64 0] 34 ∧ Cells v329 k42 [.pointer (some ⟨k28, 0, none⟩), .pointer (some ⟨k21, 1, none⟩), .pointer (some ⟨k21, 2, none⟩), .pointer (some ⟨k21, 3, none⟩), .pointer (some ⟨k21, 4, none⟩), .pointer (some ⟨k21, 5, none⟩)] 67 ∧ Cells v329 k28 [.int .i64 q1_0] 3 ∧ Cells v329 k185 [.pointer (some ⟨k21, 10, none⟩), .pointer (some ⟨k21, 11, none⟩), .pointer (some ⟨k21, 12, none⟩)] 75 ∧ ∃ (wr : Int) (bd : Bool) (cur : List UInt8) (acc : List (ByteArray × Int)) (ra9 : Option Addr) (rc9 : Nat), m = wr.toNat ∧ 0 ≤ wr ∧ wr ≤ 1099511627776 ∧ wrL wr.toNat bd cur acc = wrL q18_0.toNat b18 d18 [] ∧ (acc.length : Int) + wr ≤ 1099511627776 ∧ txOk acc ∧ Cells v329 k21 [.int .i64 0, .int .i64 q2_0, .int .i64 q3_0, .int .i64 q4_0, .int .i64 q5_0, .int .i64 q6_0, .string q7_0, .int .i64 q8_0, .int .i64 q8_1, .int .i64 q9_0, .string q10_0, .string q11_0, .string q12_0, .bool q13_0, .int .i64 q14_0, .int .i64 q14_1, .int .i64 q15_0, .int .i64 q15_1, .bool q16_0, .bool q17_0, .slice ra9 acc.length rc9, .int .i64 0] 34 ∧ V.Row V.Cod.write 60 v329 V.None' w316.heap.size v329.heap.size ra9 rc9 acc ∧ Rd v329 k8 (fun j => w3.heap.size ≤ j ∧ j < k8) cur ∧ Cells v329 k14 [.pointer (some ⟨k8, 0, none⟩), .bool bd] 120 ∧ Cells v329 k35 [.int .i64 wr] 3 ∧ e 2 = .pointer (some ⟨k1, 0, none⟩) ∧ e 4 = .pointer (some ⟨k14, 0, none⟩) ∧ e 5 = .pointer (some ⟨k21, 0, none⟩) ∧ e 6 = .pointer (some ⟨k28, 0, none⟩) ∧ e 7 = .pointer (some ⟨k35, 0, none⟩)) ?_ ?_
 ·
  exact ⟨_, HG, (by omega), F_b, Fk2, Fk43, F52, Fk186, (q18_0), (b18), (d18), ([]), _, _, rfl, (by omega), (by omega), (rfl), (by simp; omega), (by intro y hy; cases hy), F300, V.Row.nil, F313, F314, F315, rfl, rfl, rfl, rfl, rfl⟩
 try clear F300
 clear HG F_b Fk2 Fk43 F52 Fk186 F313 F314 F315
 rintro _ e v329 ⟨HG, z330, F_b, Fk2, Fk43, F52, Fk186, wr, bd, cur, acc, ra9, rc9, rfl, hw0, hw1, hinv, hal, htx, rFk9, rF9, F313, F314, F315, he2_2, he2_4, he2_5, he2_6, he2_7⟩
 refine V.knownC (t := 2) he2_2 ?_
 refine V.knownC (t := 4) he2_4 ?_
 refine V.knownC (t := 5) he2_5 ?_
 refine V.knownC (t := 6) he2_6 ?_
 refine V.knownC (t := 7) he2_7 ?_
 refine V.seq ?_
 refine V.sr ?_
 refine V.loadO T_ok F315 rfl rfl rfl rfl rfl ?_
 refine V.ru 2 ?_
 refine V.split (j := 2) (t := 79) rfl rfl (fun g23_2 => ?_) (fun g23_2 => ?_)
 ·
  try replace g23_2 := V.dec g23_2
  try simp only [V.mk] at g23_2
  refine V.ru 3 ?_
  refine V.yes rfl rfl rfl ?_
  refine V.loadO T_ok F314 rfl rfl rfl rfl rfl ?_
  refine V.ru 2 ?_
  refine V.nt ?_
  refine V.condT rfl (fun h23 => ?_) (fun h23 => ?_)
  ·
   try replace h23 := V.dec h23
   try simp only [V.mk] at h23
   refine V.skip ?_
   refine V.tN ?_
   refine V.seq ?_
   refine V.block ?_
   refine V.sr ?_
   refine V.alloc zero60 rfl rfl rfl ?_
   rintro k331 w333 s335 s336 G334 Fk332
   have z337 := V.Fr.size G334
   try replace F_b := F_b.gr G334
   try replace Fk2 := Fk2.gr G334
   try replace Fk43 := Fk43.gr G334
   try replace F52 := F52.gr G334
   try replace Fk186 := Fk186.gr G334
   try replace F313 := F313.gr G334
   try replace F314 := F314.gr G334
   try replace F315 := F315.gr G334
   try replace rFk9 := rFk9.gr G334
   try replace rF9 := rF9.gr G334
   replace HG := HG.grow G334
   try simp only [V.cellsL, V.spliceL] at Fk332
   refine V.nt ?_
   refine V.sr ?_
   refine V.ru 2 ?_
   refine V.call (tk_text (Ft := F314) (FX := F313) (Fx := Fk332) (off := 0) (hle := rfl) (n1 := by omega) (n2 := by omega) (n3 := by omega) (n4 := (by intro h; first | exact n5 h.1 | (have := h.1; have := h.2; omega))) (n5 := (by intro h; first | exact n5 h.1 | (have := h.1; have := h.2; omega)))) rfl rfl rfl ?_
   rintro _ w341 ⟨rfl, F338, F339, F340, G342⟩
   obtain ⟨w343, G344, G345⟩ := V.Fr.cut G342
   have z346 := V.Fr.size G344
   try replace F_b := F_b.mb G344 hD_b
   try replace Fk2 := Fk2.ma G344
   try replace Fk43 := Fk43.ma G344
   try replace F52 := F52.ma G344
   try replace Fk186 := Fk186.ma G344
   try replace F313 := F313.ma G344
   try replace F314 := F314.ma G344
   try replace F315 := F315.ma G344
   try replace rFk9 := rFk9.ma G344
   try replace rF9 := rF9.ma G344
   try replace Fk332 := Fk332.ma G344
   replace HG := HG.n1 G344
   obtain ⟨w347, G348, G349⟩ := V.Fr.two G345
   have z350 := V.Fr.size G348
   try replace F_b := F_b.mb G348 hD_b
   try replace Fk2 := Fk2.ma G348
   try replace Fk43 := Fk43.ma G348
   try replace F52 := F52.ma G348
   try replace Fk186 := Fk186.ma G348
   try replace F313 := F313.ma G348
   try replace F314 := F314.ma G348
   try replace F315 := F315.ma G348
   try replace rFk9 := rFk9.ma G348
   try replace rF9 := rF9.ma G348
   try replace Fk332 := Fk332.ma G348
   replace HG := HG.n1 G348
   have z351 := V.Fr.size G349
   try replace F_b := F_b.mb G349 hD_b
   try replace Fk2 := Fk2.ma G349
   try replace Fk43 := Fk43.ma G349
   try replace F52 := F52.ma G349
   try replace Fk186 := Fk186.ma G349
   try replace F313 := F313.ma G349
   try replace F314 := F314.ma G349
   try replace F315 := F315.ma G349
   try replace rFk9 := rFk9.ma G349
   try replace rF9 := rF9.ma G349
   try replace Fk332 := Fk332.ma G349
   replace HG := HG.n1 G349
   simp only [V.spliceL, V.cellsL] at F340
   refine V.nt ?_
   refine V.sr ?_
   refine V.ru 2 ?_
   refine V.call (tk_number (Ft := F339) (FX := F338) (Fx := F340) (off := 1) (hle := rfl) (n1 := by omega) (n2 := by omega) (n3 := by omega) (n4 := (by intro h; first | exact n5 h.1 | (have := h.1; have := h.2; omega))) (n5 := (by intro h; first | exact n5 h.1 | (have := h.1; have := h.2; omega)))) rfl rfl rfl ?_
   rintro _ w355 ⟨rfl, F352, F353, F354, G356⟩
   obtain ⟨w357, G358, G359⟩ := V.Fr.cut G356
   have z360 := V.Fr.size G358
   try replace F_b := F_b.mb G358 hD_b
   try replace Fk2 := Fk2.ma G358
   try replace Fk43 := Fk43.ma G358
   try replace F52 := F52.ma G358
   try replace Fk186 := Fk186.ma G358
   try replace F315 := F315.ma G358
   try replace rFk9 := rFk9.ma G358
   try replace rF9 := rF9.ma G358
   try replace F338 := F338.ma G358
   try replace F339 := F339.ma G358
   try replace F340 := F340.ma G358
   replace HG := HG.n1 G358
   obtain ⟨w361, G362, G363⟩ := V.Fr.two G359
   have z364 := V.Fr.size G362
   try replace F_b := F_b.mb G362 hD_b
   try replace Fk2 := Fk2.ma G362
   try replace Fk43 := Fk43.ma G362
   try replace F52 := F52.ma G362
   try replace Fk186 := Fk186.ma G362
   try replace F315 := F315.ma G362
   try replace rFk9 := rFk9.ma G362
   try replace rF9 := rF9.ma G362
   try replace F338 := F338.ma G362
   try replace F339 := F339.ma G362
   try replace F340 := F340.ma G362
   replace HG := HG.n1 G362
   have z365 := V.Fr.size G363
   try replace F_b := F_b.mb G363 hD_b
   try replace Fk2 := Fk2.ma G363
   try replace Fk43 := Fk43.ma G363
   try replace F52 := F52.ma G363
   try replace Fk186 := Fk186.ma G363
   try replace F315 := F315.ma G363
   try replace rFk9 := rFk9.ma G363
   try replace rF9 := rF9.ma G363
   try replace F338 := F338.ma G363
   try replace F339 := F339.ma G363
   try replace F340 := F340.ma G363
   replace HG := HG.n1 G363
   simp only [V.spliceL, V.cellsL] at F354
   refine V.nt ?_
   refine V.region ?_
   refine V.ru 1 ?_
   refine V.loadO T_ok rFk9 rfl rfl rfl rfl rfl ?_
   refine V.loadO T_ok F354 rfl rfl rfl rfl rfl ?_
   refine V.mkSlice T_ok zero60 rfl rfl sz60 rfl rfl rfl rfl rfl rfl ?_
   rintro k366 w369 s371 s372 G370 Fk367
   have z373 := V.Fr.size G370
   try replace F_b := F_b.gr G370
   try replace Fk2 := Fk2.gr G370
   try replace Fk43 := Fk43.gr G370
   try replace F52 := F52.gr G370
   try replace Fk186 := Fk186.gr G370
   try replace F315 := F315.gr G370
   try replace rFk9 := rFk9.gr G370
   try replace rF9 := rF9.gr G370
   try replace F352 := F352.gr G370
   try replace F353 := F353.gr G370
   try replace F354 := F354.gr G370
   replace HG := HG.grow G370
   have F368 := V.rowOfC (xs := ([(S (rdT cur 65536).1.1, (rdN ((rdT cur 65536).2) 1099511627776).1.1)] : List (ByteArray × Int))) Fk367 (C := V.Cod.write) (V.reps_cons (x := (S (rdT cur 65536).1.1, (rdN ((rdT cur 65536).2) 1099511627776).1.1)) ⟨_, _, rfl, rfl, rfl⟩ rfl rfl) rfl
   clear Fk367
   refine V.appendR (rF9) (V.From.flat V.flat_write (D' := V.None') (F368.sl.from Try.underlying32)) elT32_32 rfl rfl rfl rfl rfl V.lenA (by unfold maxLen; first | omega | (simp only [List.length_take, List.length_drop, List.length_append, List.length_cons, List.length_nil, List.length_replicate, List.length_set, V.length_data, V.S_size]; omega)) (by omega) (by omega) (fun _ h => h.elim) (fun _ h => h.elim) ?_
   rintro a374 c375 w377 G378 s379 F376
   clear rF9
   clear F368
   have z380 := Go.RowKit.Below.size G378
   first | replace F_b := V.Sl.bl F_b G378 (by first | exact (fun _ h => by have := h.2; omega) | (intro k h; have := hD_b k h; omega)) | clear F_b | skip
   first | replace Fk2 := V.Cells.bl Fk2 G378 (by omega) | clear Fk2 | skip
   first | replace Fk43 := V.Cells.bl Fk43 G378 (by omega) | clear Fk43 | skip
   first | replace F52 := V.Cells.bl F52 G378 (by omega) | clear F52 | skip
   first | replace Fk186 := V.Cells.bl Fk186 G378 (by omega) | clear Fk186 | skip
   first | replace F315 := V.Cells.bl F315 G378 (by omega) | clear F315 | skip
   first | replace rFk9 := V.Cells.bl rFk9 G378 (by omega) | clear rFk9 | skip
   first | replace F352 := F352.bl G378 (by first | exact ⟨by omega, fun j h => by have := h.2; omega⟩ | (first | omega | exact fun h => h | exact ⟨by omega, fun h => h⟩ | (intro h; first | (have := hD_b _ h; omega)) | (refine ⟨by omega, ?_⟩; intro h; first | (have := hD_b _ h; omega)))) | clear F352 | skip
   first | replace F353 := V.Cells.bl F353 G378 (by omega) | clear F353 | skip
   first | replace F354 := V.Cells.bl F354 G378 (by omega) | clear F354 | skip
   replace HG := HG.bl (Go.RowKit.Below.mono G378 (by omega))
   refine V.ru 1 ?_
   refine V.storeO rFk9 rfl rfl rfl rfl sz32 rfl rfl rfl rfl ?_
   rintro w381 G382 z384 Fs383
   clear rFk9
   have z385 := V.Fr.size G382
   try replace F_b := F_b.mb G382 hD_b
   try replace Fk2 := Fk2.ma G382
   try replace Fk43 := Fk43.ma G382
   try replace F52 := F52.ma G382
   try replace Fk186 := Fk186.ma G382
   try replace F315 := F315.ma G382
   try replace F352 := F352.ma G382
   try replace F353 := F353.ma G382
   try replace F354 := F354.ma G382
   try replace F376 := F376.ma G382
   replace HG := HG.n1 G382
   have rFk9 := Fs383; clear Fs383
   simp only [V.spliceL, V.cellsL] at rFk9
   refine V.nil ?_
   refine V.bN ?_
   refine V.tN ?_
   refine V.region ?_
   refine V.loadO T_ok F315 rfl rfl rfl rfl rfl ?_
   refine V.subN rfl rfl rfl rfl rfl V.lenA V.lenA ?_
   refine V.storeO F315 rfl rfl rfl rfl sz3 rfl rfl rfl rfl ?_
   rintro w386 G387 z389 Fs388
   clear F315
   have z390 := V.Fr.size G387
   try replace F_b := F_b.mb G387 hD_b
   try replace Fk2 := Fk2.ma G387
   try replace Fk43 := Fk43.ma G387
   try replace F52 := F52.ma G387
   try replace Fk186 := Fk186.ma G387
   try replace F352 := F352.ma G387
   try replace F353 := F353.ma G387
   try replace F354 := F354.ma G387
   try replace F376 := F376.ma G387
   try replace rFk9 := rFk9.ma G387
   replace HG := HG.n1 G387
   have F315 := Fs388; clear Fs388
   simp only [V.spliceL, V.cellsL] at F315
   refine V.nt ?_
   exact ⟨_, (by omega), HG, (by omega), F_b, Fk2, Fk43, F52, Fk186, (wr - 1), ((bd || decide (¬ (rdT cur 65536).1.2 = 0)) || decide (¬ (rdN ((rdT cur 65536).2) 1099511627776).1.2 = 0)), ((rdN ((rdT cur 65536).2) 1099511627776).2), (acc ++ ([(S (rdT cur 65536).1.1, (rdN ((rdT cur 65536).2) 1099511627776).1.1)] : List (ByteArray × Int))), _, _, rfl, (by omega), (by omega), ((wrL_succ g23_2 h23).symm.trans hinv), (by rw [List.length_append]; simp; omega), (htx.snoc (szT rfl)), rFk9, F376.re, F352, F353, F315, rfl, rfl, rfl, rfl, rfl⟩
  ·
   try replace h23 := V.dec h23
   try simp only [V.mk] at h23
   refine V.exit ?_
   refine V.tX ?_
   refine V.tX ?_
   refine V.bE ?_
   refine V.tN ?_
   refine V.sr ?_
   refine V.ru 2 ?_
   refine V.call (tk_number (Ft := F314) (FX := F313) (Fx := rFk9) (off := 21) (hle := rfl) (n1 := by omega) (n2 := by omega) (n3 := by omega) (n4 := (by intro h; first | exact n5 h.1 | (have := h.1; have := h.2; omega))) (n5 := (by intro h; first | exact n5 h.1 | (have := h.1; have := h.2; omega)))) rfl rfl rfl ?_
   rintro _ w394 ⟨rfl, F391, F392, F393, G395⟩
   obtain ⟨w396, G397, G398⟩ := V.Fr.cut G395
   have z399 := V.Fr.size G397
   try replace F_b := F_b.mb G397 hD_b
   try replace Fk2 := Fk2.ma G397
   try replace Fk43 := Fk43.ma G397
   try replace F52 := F52.ma G397
   try replace Fk186 := Fk186.ma G397
   try replace F313 := F313.ma G397
   try replace F314 := F314.ma G397
   try replace F315 := F315.ma G397
   try replace rFk9 := rFk9.ma G397
   try replace rF9 := rF9.ma G397
   replace HG := HG.n1 G397
   obtain ⟨w400, G401, G402⟩ := V.Fr.two G398
   have z403 := V.Fr.size G401
   try replace F_b := F_b.mb G401 hD_b
   try replace Fk2 := Fk2.ma G401
   try replace Fk43 := Fk43.ma G401
   try replace F52 := F52.ma G401
   try replace Fk186 := Fk186.ma G401
   try replace F313 := F313.ma G401
   try replace F314 := F314.ma G401
   try replace F315 := F315.ma G401
   try replace rFk9 := rFk9.ma G401
   try replace rF9 := rF9.ma G401
   replace HG := HG.n1 G401
   have z404 := V.Fr.size G402
   try replace F_b := F_b.mb G402 hD_b
   try replace Fk2 := Fk2.ma G402
   try replace Fk43 := Fk43.ma G402
   try replace F52 := F52.ma G402
   try replace Fk186 := Fk186.ma G402
   try replace F313 := F313.ma G402
   try replace F314 := F314.ma G402
   try replace F315 := F315.ma G402
   try replace rFk9 := rFk9.ma G402
   try replace rF9 := rF9.ma G402
   replace HG := HG.n1 G402
   simp only [V.spliceL, V.cellsL] at F393
   refine V.nt ?_
   refine V.seq ?_
   refine V.seq ?_
   have hR2 : decAll b = ((⟨q1_0, q2_0, q3_0, q4_0, q5_0, q6_0, q7_0, q8_0, q8_1, q9_0, q10_0, q11_0, q12_0, q13_0, q14_0, q14_1, q15_0, q15_1, q16_0, q17_0, acc, (rdN cur 1099511627776).1.1⟩ : CmdV), bd || decide (¬ (rdN cur 1099511627776).1.2 = 0), (rdN cur 1099511627776).2) := by
    rw [hR, ← hinv, wrL_end (by intro hq; first | exact g23_2 hq.1 | (have := hq.1; omega) | exact h23 hq.2 | (rw [hq.2] at h23; cases h23))]; rfl
   clear hR hinv
   generalize (rdN cur 1099511627776).1.1 = pr at F393 hR2
   generalize (bd || decide (¬ (rdN cur 1099511627776).1.2 = 0)) = bE at F392 hR2
   generalize (rdN cur 1099511627776).2 = dE at F391 hR2
   refine V.region ?_
   refine V.loadO T_ok F52 rfl rfl rfl rfl rfl ?_
   refine V.ru 1 ?_
   refine V.storeO F393 rfl rfl rfl rfl sz27 rfl rfl rfl rfl ?_
   rintro w405 G406 z408 Fs407
   clear F393
   have z409 := V.Fr.size G406
   try replace F_b := F_b.mb G406 hD_b
   try replace Fk2 := Fk2.ma G406
   try replace Fk43 := Fk43.ma G406
   try replace F52 := F52.ma G406
   try replace Fk186 := Fk186.ma G406
   try replace F315 := F315.ma G406
   try replace rF9 := rF9.ma G406
   try replace F391 := F391.ma G406
   try replace F392 := F392.ma G406
   replace HG := HG.n1 G406
   have F393 := Fs407; clear Fs407
   simp only [V.spliceL, V.cellsL] at F393
   refine V.nt ?_
   refine V.sr ?_
   refine V.ru 3 ?_
   refine V.loadO T_ok F392 rfl rfl rfl rfl rfl ?_
   refine V.ru 1 ?_
   refine V.split (j := 4) (t := 109) rfl rfl (fun g31_4 => ?_) (fun g31_4 => ?_)
   ·
    try replace g31_4 := V.dec g31_4
    try simp only [V.mk] at g31_4
    refine V.ru 12 ?_
    refine V.nt ?_
    refine V.condY rfl rfl ?_
    refine V.sr ?_
    refine V.mkStruct T_ok zero34 rfl rfl rfl rfl rfl ?_
    refine V.storeO Fk2 rfl rfl rfl rfl sz34 rfl rfl rfl rfl ?_
    rintro w410 G411 z413 Fs412
    clear Fk2
    have z414 := V.Fr.size G411
    try replace F_b := F_b.mb G411 hD_b
    try replace Fk43 := Fk43.ma G411
    try replace F52 := F52.ma G411
    try replace Fk186 := Fk186.ma G411
    try replace F315 := F315.ma G411
    try replace rF9 := rF9.ma G411
    try replace F391 := F391.ma G411
    try replace F392 := F392.ma G411
    try replace F393 := F393.ma G411
    replace HG := HG.n1 G411
    have Fk2 := Fs412; clear Fs412
    simp only [V.spliceL, V.cellsL] at Fk2
    refine V.ru 1 ?_
    refine V.nt ?_
    refine V.ret ?_
    refine V.tR ?_
    refine V.done2 rfl (V.resV_cell T_ok Fk2 rfl rfl) (V.resV_tmp rfl) ?_
    rw [show decC b = none from decC_no hR2 (by rintro ⟨h1, h2, h3⟩; first | (rw [h1] at g31_4; cases g31_4; done) | exact g31_12 (if_pos h2) | (rw [h3] at h31; cases h31; done))]
    exact ⟨none, 0, (by first | rfl | simp only [List.length_set]), V.Row.nil, HG⟩
   ·
    try replace g31_4 := V.dec g31_4
    try simp only [V.mk] at g31_4
    refine V.ru 3 ?_
    refine V.yes rfl rfl rfl ?_
    refine V.loadO T_ok F392 rfl rfl rfl rfl rfl ?_
    refine V.yes rfl rfl rfl ?_
    refine V.call (rd_end F391) rfl rfl rfl ?_
    rintro _ w405_ ⟨rfl, rfl⟩
    refine V.ru 3 ?_
    refine V.split (j := 12) (t := 117) rfl rfl (fun g31_12 => ?_) (fun g31_12 => ?_)
    ·
     try replace g31_12 := V.dec g31_12
     try simp only [V.mk] at g31_12
     refine V.ru 4 ?_
     refine V.nt ?_
     refine V.condY rfl rfl ?_
     refine V.sr ?_
     refine V.mkStruct T_ok zero34 rfl rfl rfl rfl rfl ?_
     refine V.storeO Fk2 rfl rfl rfl rfl sz34 rfl rfl rfl rfl ?_
     rintro w416 G417 z419 Fs418
     clear Fk2
     have z420 := V.Fr.size G417
     try replace F_b := F_b.mb G417 hD_b
     try replace Fk43 := Fk43.ma G417
     try replace F52 := F52.ma G417
     try replace Fk186 := Fk186.ma G417
     try replace F315 := F315.ma G417
     try replace rF9 := rF9.ma G417
     try replace F391 := F391.ma G417
     try replace F392 := F392.ma G417
     try replace F393 := F393.ma G417
     replace HG := HG.n1 G417
     have Fk2 := Fs418; clear Fs418
     simp only [V.spliceL, V.cellsL] at Fk2
     refine V.ru 1 ?_
     refine V.nt ?_
     refine V.ret ?_
     refine V.tR ?_
     refine V.done2 rfl (V.resV_cell T_ok Fk2 rfl rfl) (V.resV_tmp rfl) ?_
     rw [show decC b = none from decC_no hR2 (by rintro ⟨h1, h2, h3⟩; first | (rw [h1] at g31_4; cases g31_4; done) | exact g31_12 (if_pos h2) | (rw [h3] at h31; cases h31; done))]
     exact ⟨none, 0, (by first | rfl | simp only [List.length_set]), V.Row.nil, HG⟩
    ·
     try replace g31_12 := V.dec g31_12
     try simp only [V.mk] at g31_12
     refine V.yes rfl rfl rfl ?_
     have hsz : SzOk (⟨q1_0, q2_0, q3_0, q4_0, q5_0, q6_0, q7_0, q8_0, q8_1, q9_0, q10_0, q11_0, q12_0, q13_0, q14_0, q14_1, q15_0, q15_1, q16_0, q17_0, acc, pr⟩ : CmdV) := ⟨by assumption, by assumption, by assumption, by assumption, htx⟩
     refine V.loadO T_ok F393 rfl rfl rfl rfl rfl ?_
     refine V.yes rfl rfl rfl ?_
     refine V.call (cright_spec (d := (⟨q1_0, q2_0, q3_0, q4_0, q5_0, q6_0, q7_0, q8_0, q8_1, q9_0, q10_0, q11_0, q12_0, q13_0, q14_0, q14_1, q15_0, q15_1, q16_0, q17_0, acc, pr⟩ : CmdV)) rF9.sl (fun k hk => by have := hk.2; omega) (by first | (with_reducible assumption) | exact hz | (constructor <;> first | exact hz.an | exact hz.fr | exact hz.to | exact hz.va | exact hz.ws | exact (by decide : (S []).size ≤ 9223372036854775807) | exact (fun x hx => nomatch (show x ∈ ([] : List (ByteArray × Int)) from hx))))) rfl rfl rfl ?_
     rintro _ w421 ⟨rfl, G422⟩
     have z423 := V.Fr.size G422
     try replace F_b := F_b.gr G422
     try replace Fk2 := Fk2.gr G422
     try replace Fk43 := Fk43.gr G422
     try replace F52 := F52.gr G422
     try replace Fk186 := Fk186.gr G422
     try replace F315 := F315.gr G422
     try replace rF9 := rF9.gr G422
     try replace F391 := F391.gr G422
     try replace F392 := F392.gr G422
     try replace F393 := F393.gr G422
     replace HG := HG.grow G422
     refine V.ru 2 ?_
     refine V.nt ?_
     refine V.condT rfl (fun h31 => ?_) (fun h31 => ?_)
     ·
      try replace h31 := V.dec h31
      try simp only [V.mk] at h31
      refine V.sr ?_
      refine V.mkStruct T_ok zero34 rfl rfl rfl rfl rfl ?_
      refine V.storeO Fk2 rfl rfl rfl rfl sz34 rfl rfl rfl rfl ?_
      rintro w424 G425 z427 Fs426
      clear Fk2
      have z428 := V.Fr.size G425
      try replace F_b := F_b.mb G425 hD_b
      try replace Fk43 := Fk43.ma G425
      try replace F52 := F52.ma G425
      try replace Fk186 := Fk186.ma G425
      try replace F315 := F315.ma G425
      try replace rF9 := rF9.ma G425
      try replace F391 := F391.ma G425
      try replace F392 := F392.ma G425
      try replace F393 := F393.ma G425
      replace HG := HG.n1 G425
      have Fk2 := Fs426; clear Fs426
      simp only [V.spliceL, V.cellsL] at Fk2
      refine V.ru 1 ?_
      refine V.nt ?_
      refine V.ret ?_
      refine V.tR ?_
      refine V.done2 rfl (V.resV_cell T_ok Fk2 rfl rfl) (V.resV_tmp rfl) ?_
      rw [show decC b = none from decC_no hR2 (by rintro ⟨h1, h2, h3⟩; first | (rw [h1] at g31_4; cases g31_4; done) | exact g31_12 (if_pos h2) | (rw [h3] at h31; cases h31; done))]
      exact ⟨none, 0, (by first | rfl | simp only [List.length_set]), V.Row.nil, HG⟩
     ·
      try replace h31 := V.dec h31
      try simp only [V.mk] at h31
      refine V.skip ?_
      refine V.tN ?_
      refine V.sr ?_
      refine V.loadO T_ok F393 rfl rfl rfl rfl rfl ?_
      refine V.storeO Fk2 rfl rfl rfl rfl sz34 rfl rfl rfl rfl ?_
      rintro w429 G430 z432 Fs431
      clear Fk2
      have z433 := V.Fr.size G430
      try replace F_b := F_b.mb G430 hD_b
      try replace Fk43 := Fk43.ma G430
      try replace F52 := F52.ma G430
      try replace Fk186 := Fk186.ma G430
      try replace F315 := F315.ma G430
      try replace rF9 := rF9.ma G430
      try replace F391 := F391.ma G430
      try replace F392 := F392.ma G430
      try replace F393 := F393.ma G430
      replace HG := HG.n1 G430
      have Fk2 := Fs431; clear Fs431
      simp only [V.spliceL, V.cellsL] at Fk2
      refine V.ru 1 ?_
      refine V.nt ?_
      refine V.ret ?_
      refine V.done2 rfl (V.resV_cell T_ok Fk2 rfl rfl) (V.resV_tmp rfl) ?_
      rw [show decC b = some ⟨q1_0, q2_0, q3_0, q4_0, q5_0, q6_0, q7_0, q8_0, q8_1, q9_0, q10_0, q11_0, q12_0, q13_0, q14_0, q14_1, q15_0, q15_1, q16_0, q17_0, acc, pr⟩ from decC_yes hR2 (by exact g31_4) (by by_cases hd : dE = []; exact hd; rw [if_neg hd] at g31_12; cases g31_12) (by exact h31)]
      exact ⟨ra9, rc9, (by first | rfl | simp only [List.length_set]), rF9.re, HG⟩
 ·
  try replace g23_2 := V.dec g23_2
  try simp only [V.mk] at g23_2
  refine V.ru 6 ?_
  refine V.nt ?_
  refine V.condN rfl rfl ?_
  refine V.exit ?_
  refine V.tX ?_
  refine V.tX ?_
  refine V.bE ?_
  refine V.tN ?_
  refine V.sr ?_
  refine V.ru 2 ?_
  refine V.call (tk_number (Ft := F314) (FX := F313) (Fx := rFk9) (off := 21) (hle := rfl) (n1 := by omega) (n2 := by omega) (n3 := by omega) (n4 := (by intro h; first | exact n5 h.1 | (have := h.1; have := h.2; omega))) (n5 := (by intro h; first | exact n5 h.1 | (have := h.1; have := h.2; omega)))) rfl rfl rfl ?_
  rintro _ w437 ⟨rfl, F434, F435, F436, G438⟩
  obtain ⟨w439, G440, G441⟩ := V.Fr.cut G438
  have z442 := V.Fr.size G440
  try replace F_b := F_b.mb G440 hD_b
  try replace Fk2 := Fk2.ma G440
  try replace Fk43 := Fk43.ma G440
  try replace F52 := F52.ma G440
  try replace Fk186 := Fk186.ma G440
  try replace F313 := F313.ma G440
  try replace F314 := F314.ma G440
  try replace F315 := F315.ma G440
  try replace rFk9 := rFk9.ma G440
  try replace rF9 := rF9.ma G440
  replace HG := HG.n1 G440
  obtain ⟨w443, G444, G445⟩ := V.Fr.two G441
  have z446 := V.Fr.size G444
  try replace F_b := F_b.mb G444 hD_b
  try replace Fk2 := Fk2.ma G444
  try replace Fk43 := Fk43.ma G444
  try replace F52 := F52.ma G444
  try replace Fk186 := Fk186.ma G444
  try replace F313 := F313.ma G444
  try replace F314 := F314.ma G444
  try replace F315 := F315.ma G444
  try replace rFk9 := rFk9.ma G444
  try replace rF9 := rF9.ma G444
  replace HG := HG.n1 G444
  have z447 := V.Fr.size G445
  try replace F_b := F_b.mb G445 hD_b
  try replace Fk2 := Fk2.ma G445
  try replace Fk43 := Fk43.ma G445
  try replace F52 := F52.ma G445
  try replace Fk186 := Fk186.ma G445
  try replace F313 := F313.ma G445
  try replace F314 := F314.ma G445
  try replace F315 := F315.ma G445
  try replace rFk9 := rFk9.ma G445
  try replace rF9 := rF9.ma G445
  replace HG := HG.n1 G445
  simp only [V.spliceL, V.cellsL] at F436
  refine V.nt ?_
  refine V.seq ?_
  refine V.seq ?_
  have hR2 : decAll b = ((⟨q1_0, q2_0, q3_0, q4_0, q5_0, q6_0, q7_0, q8_0, q8_1, q9_0, q10_0, q11_0, q12_0, q13_0, q14_0, q14_1, q15_0, q15_1, q16_0, q17_0, acc, (rdN cur 1099511627776).1.1⟩ : CmdV), bd || decide (¬ (rdN cur 1099511627776).1.2 = 0), (rdN cur 1099511627776).2) := by
   rw [hR, ← hinv, wrL_end (by intro hq; first | exact g23_2 hq.1 | (have := hq.1; omega) | exact h23 hq.2 | (rw [hq.2] at h23; cases h23))]; rfl
  clear hR hinv
  generalize (rdN cur 1099511627776).1.1 = pr at F436 hR2
  generalize (bd || decide (¬ (rdN cur 1099511627776).1.2 = 0)) = bE at F435 hR2
  generalize (rdN cur 1099511627776).2 = dE at F434 hR2
  refine V.region ?_
  refine V.loadO T_ok F52 rfl rfl rfl rfl rfl ?_
  refine V.ru 1 ?_
  refine V.storeO F436 rfl rfl rfl rfl sz27 rfl rfl rfl rfl ?_
  rintro w448 G449 z451 Fs450
  clear F436
  have z452 := V.Fr.size G449
  try replace F_b := F_b.mb G449 hD_b
  try replace Fk2 := Fk2.ma G449
  try replace Fk43 := Fk43.ma G449
  try replace F52 := F52.ma G449
  try replace Fk186 := Fk186.ma G449
  try replace F315 := F315.ma G449
  try replace rF9 := rF9.ma G449
  try replace F434 := F434.ma G449
  try replace F435 := F435.ma G449
  replace HG := HG.n1 G449
  have F436 := Fs450; clear Fs450
  simp only [V.spliceL, V.cellsL] at F436
  refine V.nt ?_
  refine V.sr ?_
  refine V.ru 3 ?_
  refine V.loadO T_ok F435 rfl rfl rfl rfl rfl ?_
  refine V.ru 1 ?_
  refine V.split (j := 4) (t := 109) rfl rfl (fun g31_4 => ?_) (fun g31_4 => ?_)
  ·
   try replace g31_4 := V.dec g31_4
   try simp only [V.mk] at g31_4
   refine V.ru 12 ?_
   refine V.nt ?_
   refine V.condY rfl rfl ?_
   refine V.sr ?_
   refine V.mkStruct T_ok zero34 rfl rfl rfl rfl rfl ?_
   refine V.storeO Fk2 rfl rfl rfl rfl sz34 rfl rfl rfl rfl ?_
   rintro w453 G454 z456 Fs455
   clear Fk2
   have z457 := V.Fr.size G454
   try replace F_b := F_b.mb G454 hD_b
   try replace Fk43 := Fk43.ma G454
   try replace F52 := F52.ma G454
   try replace Fk186 := Fk186.ma G454
   try replace F315 := F315.ma G454
   try replace rF9 := rF9.ma G454
   try replace F434 := F434.ma G454
   try replace F435 := F435.ma G454
   try replace F436 := F436.ma G454
   replace HG := HG.n1 G454
   have Fk2 := Fs455; clear Fs455
   simp only [V.spliceL, V.cellsL] at Fk2
   refine V.ru 1 ?_
   refine V.nt ?_
   refine V.ret ?_
   refine V.tR ?_
   refine V.done2 rfl (V.resV_cell T_ok Fk2 rfl rfl) (V.resV_tmp rfl) ?_
   rw [show decC b = none from decC_no hR2 (by rintro ⟨h1, h2, h3⟩; first | (rw [h1] at g31_4; cases g31_4; done) | exact g31_12 (if_pos h2) | (rw [h3] at h31; cases h31; done))]
   exact ⟨none, 0, (by first | rfl | simp only [List.length_set]), V.Row.nil, HG⟩
  ·
   try replace g31_4 := V.dec g31_4
   try simp only [V.mk] at g31_4
   refine V.ru 3 ?_
   refine V.yes rfl rfl rfl ?_
   refine V.loadO T_ok F435 rfl rfl rfl rfl rfl ?_
   refine V.yes rfl rfl rfl ?_
   refine V.call (rd_end F434) rfl rfl rfl ?_
   rintro _ w448_ ⟨rfl, rfl⟩
   refine V.ru 3 ?_
   refine V.split (j := 12) (t := 117) rfl rfl (fun g31_12 => ?_) (fun g31_12 => ?_)
   ·
    try replace g31_12 := V.dec g31_12
    try simp only [V.mk] at g31_12
    refine V.ru 4 ?_
    refine V.nt ?_
    refine V.condY rfl rfl ?_
    refine V.sr ?_
    refine V.mkStruct T_ok zero34 rfl rfl rfl rfl rfl ?_
    refine V.storeO Fk2 rfl rfl rfl rfl sz34 rfl rfl rfl rfl ?_
    rintro w459 G460 z462 Fs461
    clear Fk2
    have z463 := V.Fr.size G460
    try replace F_b := F_b.mb G460 hD_b
    try replace Fk43 := Fk43.ma G460
    try replace F52 := F52.ma G460
    try replace Fk186 := Fk186.ma G460
    try replace F315 := F315.ma G460
    try replace rF9 := rF9.ma G460
    try replace F434 := F434.ma G460
    try replace F435 := F435.ma G460
    try replace F436 := F436.ma G460
    replace HG := HG.n1 G460
    have Fk2 := Fs461; clear Fs461
    simp only [V.spliceL, V.cellsL] at Fk2
    refine V.ru 1 ?_
    refine V.nt ?_
    refine V.ret ?_
    refine V.tR ?_
    refine V.done2 rfl (V.resV_cell T_ok Fk2 rfl rfl) (V.resV_tmp rfl) ?_
    rw [show decC b = none from decC_no hR2 (by rintro ⟨h1, h2, h3⟩; first | (rw [h1] at g31_4; cases g31_4; done) | exact g31_12 (if_pos h2) | (rw [h3] at h31; cases h31; done))]
    exact ⟨none, 0, (by first | rfl | simp only [List.length_set]), V.Row.nil, HG⟩
   ·
    try replace g31_12 := V.dec g31_12
    try simp only [V.mk] at g31_12
    refine V.yes rfl rfl rfl ?_
    have hsz : SzOk (⟨q1_0, q2_0, q3_0, q4_0, q5_0, q6_0, q7_0, q8_0, q8_1, q9_0, q10_0, q11_0, q12_0, q13_0, q14_0, q14_1, q15_0, q15_1, q16_0, q17_0, acc, pr⟩ : CmdV) := ⟨by assumption, by assumption, by assumption, by assumption, htx⟩
    refine V.loadO T_ok F436 rfl rfl rfl rfl rfl ?_
    refine V.yes rfl rfl rfl ?_
    refine V.call (cright_spec (d := (⟨q1_0, q2_0, q3_0, q4_0, q5_0, q6_0, q7_0, q8_0, q8_1, q9_0, q10_0, q11_0, q12_0, q13_0, q14_0, q14_1, q15_0, q15_1, q16_0, q17_0, acc, pr⟩ : CmdV)) rF9.sl (fun k hk => by have := hk.2; omega) (by first | (with_reducible assumption) | exact hz | (constructor <;> first | exact hz.an | exact hz.fr | exact hz.to | exact hz.va | exact hz.ws | exact (by decide : (S []).size ≤ 9223372036854775807) | exact (fun x hx => nomatch (show x ∈ ([] : List (ByteArray × Int)) from hx))))) rfl rfl rfl ?_
    rintro _ w464 ⟨rfl, G465⟩
    have z466 := V.Fr.size G465
    try replace F_b := F_b.gr G465
    try replace Fk2 := Fk2.gr G465
    try replace Fk43 := Fk43.gr G465
    try replace F52 := F52.gr G465
    try replace Fk186 := Fk186.gr G465
    try replace F315 := F315.gr G465
    try replace rF9 := rF9.gr G465
    try replace F434 := F434.gr G465
    try replace F435 := F435.gr G465
    try replace F436 := F436.gr G465
    replace HG := HG.grow G465
    refine V.ru 2 ?_
    refine V.nt ?_
    refine V.condT rfl (fun h31 => ?_) (fun h31 => ?_)
    ·
     try replace h31 := V.dec h31
     try simp only [V.mk] at h31
     refine V.sr ?_
     refine V.mkStruct T_ok zero34 rfl rfl rfl rfl rfl ?_
     refine V.storeO Fk2 rfl rfl rfl rfl sz34 rfl rfl rfl rfl ?_
     rintro w467 G468 z470 Fs469
     clear Fk2
     have z471 := V.Fr.size G468
     try replace F_b := F_b.mb G468 hD_b
     try replace Fk43 := Fk43.ma G468
     try replace F52 := F52.ma G468
     try replace Fk186 := Fk186.ma G468
     try replace F315 := F315.ma G468
     try replace rF9 := rF9.ma G468
     try replace F434 := F434.ma G468
     try replace F435 := F435.ma G468
     try replace F436 := F436.ma G468
     replace HG := HG.n1 G468
     have Fk2 := Fs469; clear Fs469
     simp only [V.spliceL, V.cellsL] at Fk2
     refine V.ru 1 ?_
     refine V.nt ?_
     refine V.ret ?_
     refine V.tR ?_
     refine V.done2 rfl (V.resV_cell T_ok Fk2 rfl rfl) (V.resV_tmp rfl) ?_
     rw [show decC b = none from decC_no hR2 (by rintro ⟨h1, h2, h3⟩; first | (rw [h1] at g31_4; cases g31_4; done) | exact g31_12 (if_pos h2) | (rw [h3] at h31; cases h31; done))]
     exact ⟨none, 0, (by first | rfl | simp only [List.length_set]), V.Row.nil, HG⟩
    ·
     try replace h31 := V.dec h31
     try simp only [V.mk] at h31
     refine V.skip ?_
     refine V.tN ?_
     refine V.sr ?_
     refine V.loadO T_ok F436 rfl rfl rfl rfl rfl ?_
     refine V.storeO Fk2 rfl rfl rfl rfl sz34 rfl rfl rfl rfl ?_
     rintro w472 G473 z475 Fs474
     clear Fk2
     have z476 := V.Fr.size G473
     try replace F_b := F_b.mb G473 hD_b
     try replace Fk43 := Fk43.ma G473
     try replace F52 := F52.ma G473
     try replace Fk186 := Fk186.ma G473
     try replace F315 := F315.ma G473
     try replace rF9 := rF9.ma G473
     try replace F434 := F434.ma G473
     try replace F435 := F435.ma G473
     try replace F436 := F436.ma G473
     replace HG := HG.n1 G473
     have Fk2 := Fs474; clear Fs474
     simp only [V.spliceL, V.cellsL] at Fk2
     refine V.ru 1 ?_
     refine V.nt ?_
     refine V.ret ?_
     refine V.done2 rfl (V.resV_cell T_ok Fk2 rfl rfl) (V.resV_tmp rfl) ?_
     rw [show decC b = some ⟨q1_0, q2_0, q3_0, q4_0, q5_0, q6_0, q7_0, q8_0, q8_1, q9_0, q10_0, q11_0, q12_0, q13_0, q14_0, q14_1, q15_0, q15_1, q16_0, q17_0, acc, pr⟩ from decC_yes hR2 (by exact g31_4) (by by_cases hd : dE = []; exact hd; rw [if_neg hd] at g31_12; cases g31_12) (by exact h31)]
     exact ⟨ra9, rc9, (by first | rfl | simp only [List.length_set]), rF9.re, HG⟩

end Go.Proofs.Ytooiimhcfgjbgaa
