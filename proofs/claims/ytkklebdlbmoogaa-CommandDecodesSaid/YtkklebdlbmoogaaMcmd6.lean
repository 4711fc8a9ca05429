/- Proved here: walks: what functions of this seat's program return and what they leave of memory, each as a contract. Conditions: stated at each theorem. -/
import Derived.Test.YtkklebdlbmoogaaMcmd5
namespace Go.Proofs.Ytkklebdlbmoogaa
set_option linter.unusedVariables false
set_option linter.unusedSimpArgs false
open Go
open V (Bytes Meets Env Sl Own Gr Fr Cells S)

def kN {α : Type} (b : Bool) (d : List UInt8) (k : Int → Bool → List UInt8 → α) : α := k (rdN d 1099511627776).1.1 (b || decide (¬ (rdN d 1099511627776).1.2 = 0)) (rdN d 1099511627776).2
def kT {α : Type} (b : Bool) (d : List UInt8) (k : ByteArray → Bool → List UInt8 → α) : α := k (S (rdT d 65536).1.1) (b || decide (¬ (rdT d 65536).1.2 = 0)) (rdT d 65536).2
def kS {α : Type} (b : Bool) (d : List UInt8) (k : Int → Int → Bool → List UInt8 → α) : α := k (rdS d).1.1.1 (rdS d).1.1.2 (b || decide (¬ (rdS d).1.2 = 0)) (rdS d).2
def kF {α : Type} (b : Bool) (d : List UInt8) (k : Bool → Bool → List UInt8 → α) : α := k (rdF d).1.1 (b || decide (¬ (rdF d).1.2 = 0)) (rdF d).2
theorem kN_eq {α : Type} {b b' : Bool} {d d' : List UInt8} {q : Int} {k : Int → Bool → List UInt8 → α} (h1 : (rdN d 1099511627776).1.1 = q) (h2 : (b || decide (¬ (rdN d 1099511627776).1.2 = 0)) = b') (h3 : (rdN d 1099511627776).2 = d') : kN b d k = k q b' d' := by subst h1 h2 h3; rfl
theorem kT_eq {α : Type} {b b' : Bool} {d d' : List UInt8} {q : ByteArray} {k : ByteArray → Bool → List UInt8 → α} (h1 : S (rdT d 65536).1.1 = q) (h2 : (b || decide (¬ (rdT d 65536).1.2 = 0)) = b') (h3 : (rdT d 65536).2 = d') : kT b d k = k q b' d' := by subst h1 h2 h3; rfl
theorem kS_eq {α : Type} {b b' : Bool} {d d' : List UInt8} {q r : Int} {k : Int → Int → Bool → List UInt8 → α} (h1 : (rdS d).1.1.1 = q) (h0 : (rdS d).1.1.2 = r) (h2 : (b || decide (¬ (rdS d).1.2 = 0)) = b') (h3 : (rdS d).2 = d') : kS b d k = k q r b' d' := by subst h1 h0 h2 h3; rfl
theorem kF_eq {α : Type} {b b' q : Bool} {d d' : List UInt8} {k : Bool → Bool → List UInt8 → α} (h1 : (rdF d).1.1 = q) (h2 : (b || decide (¬ (rdF d).1.2 = 0)) = b') (h3 : (rdF d).2 = d') : kF b d k = k q b' d' := by subst h1 h2 h3; rfl
/-- the writes that come next -/
def wrL : Nat → Bool → List UInt8 → List (ByteArray × Int) → Bool × List UInt8 × List (ByteArray × Int)
  | 0, b, d, acc => (b, d, acc)
  | n + 1, b, d, acc => if b = true then (b, d, acc) else kT b d fun tx b d => kN b d fun sq b d => wrL n b d (acc ++ [(tx, sq)])
def decEnd (kd id le nd ti te : Int) (an : ByteArray) (sw sl sq : Int) (fr to va : ByteArray) (go : Bool) (aw al lw ll : Int) (cm st : Bool) (x : Bool × List UInt8 × List (ByteArray × Int)) : CmdV × Bool × List UInt8 :=
  kN x.1 x.2.1 fun pr b d => (⟨kd, id, le, nd, ti, te, an, sw, sl, sq, fr, to, va, go, aw, al, lw, ll, cm, st, x.2.2, pr⟩, b, d)
/-- what a command's bytes are read as, whatever comes of it -/
def decAll (d : List UInt8) : CmdV × Bool × List UInt8 :=
  kN false d fun kd b d => kN b d fun id b d => kN b d fun le b d => kN b d fun nd b d => kN b d fun ti b d => kN b d fun te b d => kT b d fun an b d => kS b d fun sw sl b d => kN b d fun sq b d =>
  kT b d fun fr b d => kT b d fun to b d => kT b d fun va b d => kF b d fun go b d => kS b d fun aw al b d => kS b d fun lw ll b d => kF b d fun cm b d => kF b d fun st b d => kN b d fun n b d => decEnd kd id le nd ti te an sw sl sq fr to va go aw al lw ll cm st (wrL n.toNat b d [])
/-- the command of bytes -/
def decC (d : List UInt8) : Option CmdV := if (decAll d).2.1 = false ∧ (decAll d).2.2 = [] ∧ cmdB (decAll d).1 = true then some (decAll d).1 else none
def cmdZ : CmdV := ⟨0, 0, 0, 0, 0, 0, S [], 0, 0, 0, S [], S [], S [], false, 0, 0, 0, 0, false, false, [], 0⟩
theorem rdT_leM (d : List UInt8) : (rdT d 65536).1.1.length ≤ 65536 := by
  unfold rdT
  split
  · simp
  · simp only [List.length_take]; omega
theorem szT {d : List UInt8} {q : ByteArray} (h : S (rdT d 65536).1.1 = q) : q.size ≤ 9223372036854775807 := by
  have := rdT_leM d
  subst h; rw [V.S_size]; omega
theorem rdN_rng0 (d : List UInt8) {m : Int} (hm : 0 ≤ m) : 0 ≤ (rdN d m).1.1 ∧ (rdN d m).1.1 ≤ m := by
  unfold rdN
  split
  · simp; exact hm
  · simp only; omega
theorem rngN {d : List UInt8} {q : Int} (h : (rdN d 1099511627776).1.1 = q) : 0 ≤ q ∧ q ≤ 1099511627776 := h ▸ rdN_rng0 d (by decide)
theorem wrL_end {n : Int} {b : Bool} {d : List UInt8} {acc : List (ByteArray × Int)} (h : ¬ (0 < n ∧ b = false)) : wrL n.toNat b d acc = (b, d, acc) := by
  rcases hn : n.toNat with _ | k
  · rfl
  · cases b
    · exact absurd ⟨by omega, rfl⟩ h
    · rfl
theorem wrL_succ {n : Int} {b : Bool} {d : List UInt8} {acc : List (ByteArray × Int)} (h : 0 < n) (hb : b = false) : wrL n.toNat b d acc = kT b d fun tx b d => kN b d fun sq b d => wrL (n - 1).toNat b d (acc ++ [(tx, sq)]) := by
  subst hb
  rw [show n.toNat = (n - 1).toNat + 1 by omega]
  rfl
def txOk (ws : List (ByteArray × Int)) : Prop := ∀ x ∈ ws, x.1.size ≤ 9223372036854775807
theorem txOk.snoc {ws : List (ByteArray × Int)} {x : ByteArray × Int} (h : txOk ws) (hx : x.1.size ≤ 9223372036854775807) : txOk (ws ++ [x]) := by
  intro y hy
  rcases List.mem_append.1 hy with h1 | h1
  · exact h y h1
  · rw [List.mem_singleton.1 h1]; exact hx
theorem decC_no {d d' : List UInt8} {c : CmdV} {b : Bool} (h : decAll d = (c, b, d')) (h2 : ¬ (b = false ∧ d' = [] ∧ cmdB c = true)) : decC d = none := by unfold decC; rw [h]; exact if_neg h2
theorem decC_yes {d d' : List UInt8} {c : CmdV} {b : Bool} (h : decAll d = (c, b, d')) (h1 : b = false) (h2 : d' = []) (h3 : cmdB c = true) : decC d = some c := by unfold decC; rw [h]; exact if_pos ⟨h1, h2, h3⟩

set_option maxHeartbeats 900000 in
set_option maxRecDepth 10000 in
theorem decode_spec {w : World}  {D_b : Nat → Prop} {c_b : Nat} {a_b : Option Addr} {b : List UInt8} (F_b : Sl V.Cod.byte w D_b a_b c_b b) (hD_b : ∀ k, D_b k → k < w.heap.size) (hl : b.length ≤ 140737488355328) :
    Meets Try.prog 9 [.slice a_b b.length c_b] w fun r w' => ∃ (ra45 : Option Addr) (rc45 : Nat), r = .tuple #[.agg #[.int .i64 (((decC b).getD cmdZ).kd), .int .i64 (((decC b).getD cmdZ).id), .int .i64 (((decC b).getD cmdZ).le), .int .i64 (((decC b).getD cmdZ).nd), .int .i64 (((decC b).getD cmdZ).ti), .int .i64 (((decC b).getD cmdZ).te), .string (((decC b).getD cmdZ).an), .int .i64 (((decC b).getD cmdZ).sw), .int .i64 (((decC b).getD cmdZ).sl), .int .i64 (((decC b).getD cmdZ).sq), .string (((decC b).getD cmdZ).fr), .string (((decC b).getD cmdZ).to), .string (((decC b).getD cmdZ).va), .bool (((decC b).getD cmdZ).go), .int .i64 (((decC b).getD cmdZ).aw), .int .i64 (((decC b).getD cmdZ).al), .int .i64 (((decC b).getD cmdZ).lw), .int .i64 (((decC b).getD cmdZ).ll), .bool (((decC b).getD cmdZ).cm), .bool (((decC b).getD cmdZ).st), .slice ra45 (((decC b).getD cmdZ).ws).length rc45, .int .i64 (((decC b).getD cmdZ).pr)], .int .i64 (if (decC b).isSome = true then 0 else 131)] ∧ V.Row V.Cod.write 65 w' V.None' w.heap.size w'.heap.size ra45 rc45 (((decC b).getD cmdZ).ws) ∧ Gr w w' := by
 have HG := V.Fr.refl [] w
 refine V.enter (n := 124) Try.func9 rfl rfl (by decide) rfl ?_
 refine V.seq ?_
 refine V.region ?_
 refine V.alloc zero33 rfl rfl rfl ?_
 rintro k1 w3 s5 s6 G4 Fk2
 have z7 := V.Fr.size G4
 try replace F_b := F_b.gr G4
 replace HG := HG.grow G4
 clear G4
 try simp only [V.cellsL, V.spliceL] at Fk2
 refine V.run T_ok 1 rfl ?_
 refine V.nil ?_
 refine V.tN ?_
 refine V.seq ?_
 refine V.region ?_
 refine V.run T_ok 1 rfl ?_
 refine V.call (p_open F_b (fun k hk => by have := hD_b k hk; omega) (by first | omega | (simp only [List.length_take, List.length_drop, List.length_append, List.length_cons, List.length_nil, List.length_replicate, List.length_set, V.length_data, V.S_size]; omega))) rfl rfl rfl ?_
 rintro _ w11 ⟨k8, rfl, ⟨h9l, h9u⟩, F10, G12⟩
 have z13 := V.Fr.size G12
 try replace F_b := F_b.gr G12
 try replace Fk2 := Fk2.gr G12
 replace HG := HG.grow G12
 clear G12
 refine V.mkStruct T_ok zero53 rfl rfl rfl rfl rfl ?_
 refine V.box rfl rfl rfl rfl ?_
 rintro k14 w16 s18 s19 G17 Fk15
 have z20 := V.Fr.size G17
 try replace F_b := F_b.gr G17
 try replace Fk2 := Fk2.gr G17
 try replace F10 := F10.gr G17
 replace HG := HG.grow G17
 clear G17
 try simp only [V.cellsL, V.spliceL] at Fk15
 refine V.run T_ok 1 rfl ?_
 refine V.nil ?_
 refine V.tN ?_
 refine V.seq ?_
 refine V.region ?_
 refine V.alloc zero33 rfl rfl rfl ?_
 rintro k21 w23 s25 s26 G24 Fk22
 have z27 := V.Fr.size G24
 try replace F_b := F_b.gr G24
 try replace Fk2 := Fk2.gr G24
 try replace F10 := F10.gr G24
 try replace Fk15 := Fk15.gr G24
 replace HG := HG.grow G24
 clear G24
 try simp only [V.cellsL, V.spliceL] at Fk22
 refine V.nil ?_
 refine V.tN ?_
 refine V.seq ?_
 refine V.region ?_
 refine V.alloc zero3 rfl rfl rfl ?_
 rintro k28 w30 s32 s33 G31 Fk29
 have z34 := V.Fr.size G31
 try replace F_b := F_b.gr G31
 try replace Fk2 := Fk2.gr G31
 try replace F10 := F10.gr G31
 try replace Fk15 := Fk15.gr G31
 try replace Fk22 := Fk22.gr G31
 replace HG := HG.grow G31
 clear G31
 try simp only [V.cellsL, V.spliceL] at Fk29
 refine V.alloc zero3 rfl rfl rfl ?_
 rintro k35 w37 s39 s40 G38 Fk36
 have z41 := V.Fr.size G38
 try replace F_b := F_b.gr G38
 try replace Fk2 := Fk2.gr G38
 try replace F10 := F10.gr G38
 try replace Fk15 := Fk15.gr G38
 try replace Fk22 := Fk22.gr G38
 try replace Fk29 := Fk29.gr G38
 replace HG := HG.grow G38
 clear G38
 try simp only [V.cellsL, V.spliceL] at Fk36
 refine V.nil ?_
 refine V.tN ?_
 refine V.seq ?_
 refine V.seq ?_
 refine V.region ?_
 refine V.run T_ok 7 rfl ?_
 refine V.mkSlice T_ok zero54 rfl rfl sz54 rfl rfl rfl rfl rfl rfl ?_
 rintro k42 w45 s47 s48 G46 Fk43
 have z49 := V.Fr.size G46
 try replace F_b := F_b.gr G46
 try replace Fk2 := Fk2.gr G46
 try replace F10 := F10.gr G46
 try replace Fk15 := Fk15.gr G46
 try replace Fk22 := Fk22.gr G46
 try replace Fk29 := Fk29.gr G46
 try replace Fk36 := Fk36.gr G46
 replace HG := HG.grow G46
 clear G46
 refine V.run T_ok 2 rfl ?_
 refine V.nil ?_
 refine V.tN ?_
 refine V.block ?_
 refine V.loopR 7 ?_
 refine V.rnd ?_
 refine V.seq ?_
 refine V.region ?_
 refine V.run T_ok 1 rfl ?_
 refine V.nil ?_
 refine V.tN ?_
 refine V.seq ?_
 refine V.condY rfl rfl ?_
 refine V.skip ?_
 refine V.tN ?_
 refine V.seq ?_
 refine V.block ?_
 refine V.seq ?_
 refine V.region ?_
 refine V.step rfl rfl (V.elem_run T_ok rfl rfl sz54 rfl rfl (by decide) (by decide) _) ?_
 refine V.loadO T_ok Fk43 rfl rfl rfl rfl rfl ?_
 refine V.run T_ok 1 rfl ?_
 refine V.nil ?_
 refine V.tN ?_
 refine V.region ?_
 refine V.run T_ok 2 rfl ?_
 refine V.call (tk_number (Ft := Fk15) (FX := F10) (Fx := Fk29) (off := 0) (hle := rfl) (n1 := by omega) (n2 := by omega) (n3 := by omega) (n4 := (by intro h; have := h.1; have := h.2; omega)) (n5 := (by intro h; have := h.1; have := h.2; omega))) rfl rfl rfl ?_
 rintro _ w53 ⟨rfl, F50, F51, F52, G54⟩
 obtain ⟨w55, G56, G57⟩ := V.Fr.cut G54
 clear G54
 have z58 := V.Fr.size G56
 first | replace F_b := F_b.mb G56 hD_b | clear F_b | skip
 first | replace Fk2 := Fk2.mv1 G56 (by omega) | clear Fk2 | skip
 first | replace F10 := F10.mv1 G56 (by first | exact ⟨by omega, by assumption⟩ | exact ⟨by omega, fun h => absurd h.1 (by assumption)⟩ | exact ⟨by omega, fun h => absurd h.1.1 (by assumption)⟩ | exact ⟨by omega, fun h => by first | (have h2 := h.1; have h3 := h.2; omega) | (have h2 := h; dsimp only at h2; omega)⟩ | first | omega | exact fun h => h | exact ⟨by omega, fun h => h⟩ | (intro h; first | (have := hD_b _ h; omega)) | (refine ⟨by omega, ?_⟩; intro h; first | (have := hD_b _ h; omega))) | clear F10 | skip
 first | replace Fk15 := Fk15.mv1 G56 (by omega) | clear Fk15 | skip
 first | replace Fk22 := Fk22.mv1 G56 (by omega) | clear Fk22 | skip
 first | replace Fk29 := Fk29.mv1 G56 (by omega) | clear Fk29 | skip
 first | replace Fk36 := Fk36.mv1 G56 (by omega) | clear Fk36 | skip
 first | replace Fk43 := Fk43.mv1 G56 (by omega) | clear Fk43 | skip
 replace HG := HG.n1 G56
 clear G56
 obtain ⟨w59, G60, G61⟩ := V.Fr.two G57
 clear G57
 have z62 := V.Fr.size G60
 first | replace F_b := F_b.mb G60 hD_b | clear F_b | skip
 first | replace Fk2 := Fk2.mv1 G60 (by omega) | clear Fk2 | skip
 first | replace F10 := F10.mv1 G60 (by first | exact ⟨by omega, by assumption⟩ | exact ⟨by omega, fun h => absurd h.1 (by assumption)⟩ | exact ⟨by omega, fun h => absurd h.1.1 (by assumption)⟩ | exact ⟨by omega, fun h => by first | (have h2 := h.1; have h3 := h.2; omega) | (have h2 := h; dsimp only at h2; omega)⟩ | first | omega | exact fun h => h | exact ⟨by omega, fun h => h⟩ | (intro h; first | (have := hD_b _ h; omega)) | (refine ⟨by omega, ?_⟩; intro h; first | (have := hD_b _ h; omega))) | clear F10 | skip
 first | replace Fk15 := Fk15.mv1 G60 (by omega) | clear Fk15 | skip
 first | replace Fk22 := Fk22.mv1 G60 (by omega) | clear Fk22 | skip
 first | replace Fk29 := Fk29.mv1 G60 (by omega) | clear Fk29 | skip
 first | replace Fk36 := Fk36.mv1 G60 (by omega) | clear Fk36 | skip
 first | replace Fk43 := Fk43.mv1 G60 (by omega) | clear Fk43 | skip
 replace HG := HG.n1 G60
 clear G60
 have z63 := V.Fr.size G61
 first | replace F_b := F_b.mb G61 hD_b | clear F_b | skip
 first | replace Fk2 := Fk2.mv1 G61 (by omega) | clear Fk2 | skip
 first | replace F10 := F10.mv1 G61 (by first | exact ⟨by omega, by assumption⟩ | exact ⟨by omega, fun h => absurd h.1 (by assumption)⟩ | exact ⟨by omega, fun h => absurd h.1.1 (by assumption)⟩ | exact ⟨by omega, fun h => by first | (have h2 := h.1; have h3 := h.2; omega) | (have h2 := h; dsimp only at h2; omega)⟩ | first | omega | exact fun h => h | exact ⟨by omega, fun h => h⟩ | (intro h; first | (have := hD_b _ h; omega)) | (refine ⟨by omega, ?_⟩; intro h; first | (have := hD_b _ h; omega))) | clear F10 | skip
 first | replace Fk15 := Fk15.mv1 G61 (by omega) | clear Fk15 | skip
 first | replace Fk22 := Fk22.mv1 G61 (by omega) | clear Fk22 | skip
 first | replace Fk29 := Fk29.mv1 G61 (by omega) | clear Fk29 | skip
 first | replace Fk36 := Fk36.mv1 G61 (by omega) | clear Fk36 | skip
 first | replace Fk43 := Fk43.mv1 G61 (by omega) | clear Fk43 | skip
 replace HG := HG.n1 G61
 clear G61
 simp only [V.spliceL, V.cellsL] at F52
 refine V.nil ?_
 refine V.bN ?_
 refine V.tN ?_
 refine V.region ?_
 refine V.addN rfl rfl rfl rfl rfl (by first | omega | (simp only [List.length_take, List.length_drop, List.length_append, List.length_cons, List.length_nil, List.length_replicate, List.length_set, V.length_data, V.S_size]; omega)) (by first | omega | (simp only [List.length_take, List.length_drop, List.length_append, List.length_cons, List.length_nil, List.length_replicate, List.length_set, V.length_data, V.S_size]; omega)) ?_
 refine V.run T_ok 1 rfl ?_
 refine V.nil ?_
 refine V.tN ?_
 refine V.rnd ?_
 refine V.seq ?_
 have z64 : w45.heap.size ≤ w53.heap.size := by omega
 try clear z50
 try clear z51
 try clear z52
 try clear z53
 try clear z54
 try clear z55
 try clear z56
 try clear z57
 try clear z58
 try clear z59
 try clear z60
 try clear z61
 try clear z62
 try clear z63
 generalize hd1 : (rdN b 1099511627776).2 = d1 at F50
 generalize hb1 : (false || decide (¬ (rdN b 1099511627776).1.2 = 0)) = b1 at F51
 generalize hq1_0 : (rdN b 1099511627776).1.1 = q1_0 at F52
 refine V.region ?_
 refine V.run T_ok 1 rfl ?_
 refine V.nil ?_
 refine V.tN ?_
 refine V.seq ?_
 refine V.condY rfl rfl ?_
 refine V.skip ?_
 refine V.tN ?_
 refine V.seq ?_
 refine V.block ?_
 refine V.seq ?_
 refine V.region ?_
 refine V.step rfl rfl (V.elem_run T_ok rfl rfl sz54 rfl rfl (by decide) (by decide) _) ?_
 refine V.loadO T_ok Fk43 rfl rfl rfl rfl rfl ?_
 refine V.run T_ok 1 rfl ?_
 refine V.nil ?_
 refine V.tN ?_
 refine V.region ?_
 refine V.run T_ok 2 rfl ?_
 refine V.call (tk_number (Ft := F51) (FX := F50) (Fx := Fk22) (off := 1) (hle := rfl) (n1 := by omega) (n2 := by omega) (n3 := by omega) (n4 := (by intro h; have := h.1; have := h.2; omega)) (n5 := (by intro h; have := h.1; have := h.2; omega))) rfl rfl rfl ?_
 rintro _ w68 ⟨rfl, F65, F66, F67, G69⟩
 obtain ⟨w70, G71, G72⟩ := V.Fr.cut G69
 clear G69
 have z73 := V.Fr.size G71
 first | replace F_b := F_b.mb G71 hD_b | clear F_b | skip
 first | replace Fk2 := Fk2.mv1 G71 (by omega) | clear Fk2 | skip
 first | replace Fk22 := Fk22.mv1 G71 (by omega) | clear Fk22 | skip
 first | replace Fk36 := Fk36.mv1 G71 (by omega) | clear Fk36 | skip
 first | replace Fk43 := Fk43.mv1 G71 (by omega) | clear Fk43 | skip
 first | replace F50 := F50.mv1 G71 (by first | exact ⟨by omega, by assumption⟩ | exact ⟨by omega, fun h => absurd h.1 (by assumption)⟩ | exact ⟨by omega, fun h => absurd h.1.1 (by assumption)⟩ | exact ⟨by omega, fun h => by first | (have h2 := h.1; have h3 := h.2; omega) | (have h2 := h; dsimp only at h2; omega)⟩ | first | omega | exact fun h => h | exact ⟨by omega, fun h => h⟩ | (intro h; first | (have := hD_b _ h; omega)) | (refine ⟨by omega, ?_⟩; intro h; first | (have := hD_b _ h; omega))) | clear F50 | skip
 first | replace F51 := F51.mv1 G71 (by omega) | clear F51 | skip
 first | replace F52 := F52.mv1 G71 (by omega) | clear F52 | skip
 replace HG := HG.n1 G71
 clear G71
 obtain ⟨w74, G75, G76⟩ := V.Fr.two G72
 clear G72
 have z77 := V.Fr.size G75
 first | replace F_b := F_b.mb G75 hD_b | clear F_b | skip
 first | replace Fk2 := Fk2.mv1 G75 (by omega) | clear Fk2 | skip
 first | replace Fk22 := Fk22.mv1 G75 (by omega) | clear Fk22 | skip
 first | replace Fk36 := Fk36.mv1 G75 (by omega) | clear Fk36 | skip
 first | replace Fk43 := Fk43.mv1 G75 (by omega) | clear Fk43 | skip
 first | replace F50 := F50.mv1 G75 (by first | exact ⟨by omega, by assumption⟩ | exact ⟨by omega, fun h => absurd h.1 (by assumption)⟩ | exact ⟨by omega, fun h => absurd h.1.1 (by assumption)⟩ | exact ⟨by omega, fun h => by first | (have h2 := h.1; have h3 := h.2; omega) | (have h2 := h; dsimp only at h2; omega)⟩ | first | omega | exact fun h => h | exact ⟨by omega, fun h => h⟩ | (intro h; first | (have := hD_b _ h; omega)) | (refine ⟨by omega, ?_⟩; intro h; first | (have := hD_b _ h; omega))) | clear F50 | skip
 first | replace F51 := F51.mv1 G75 (by omega) | clear F51 | skip
 first | replace F52 := F52.mv1 G75 (by omega) | clear F52 | skip
 replace HG := HG.n1 G75
 clear G75
 have z78 := V.Fr.size G76
 first | replace F_b := F_b.mb G76 hD_b | clear F_b | skip
 first | replace Fk2 := Fk2.mv1 G76 (by omega) | clear Fk2 | skip
 first | replace Fk22 := Fk22.mv1 G76 (by omega) | clear Fk22 | skip
 first | replace Fk36 := Fk36.mv1 G76 (by omega) | clear Fk36 | skip
 first | replace Fk43 := Fk43.mv1 G76 (by omega) | clear Fk43 | skip
 first | replace F50 := F50.mv1 G76 (by first | exact ⟨by omega, by assumption⟩ | exact ⟨by omega, fun h => absurd h.1 (by assumption)⟩ | exact ⟨by omega, fun h => absurd h.1.1 (by assumption)⟩ | exact ⟨by omega, fun h => by first | (have h2 := h.1; have h3 := h.2; omega) | (have h2 := h; dsimp only at h2; omega)⟩ | first | omega | exact fun h => h | exact ⟨by omega, fun h => h⟩ | (intro h; first | (have := hD_b _ h; omega)) | (refine ⟨by omega, ?_⟩; intro h; first | (have := hD_b _ h; omega))) | clear F50 | skip
 first | replace F51 := F51.mv1 G76 (by omega) | clear F51 | skip
 first | replace F52 := F52.mv1 G76 (by omega) | clear F52 | skip
 replace HG := HG.n1 G76
 clear G76
 simp only [V.spliceL, V.cellsL] at F67
 refine V.nil ?_
 refine V.bN ?_
 refine V.tN ?_
 refine V.region ?_
 refine V.addN rfl rfl rfl rfl rfl (by first | omega | (simp only [List.length_take, List.length_drop, List.length_append, List.length_cons, List.length_nil, List.length_replicate, List.length_set, V.length_data, V.S_size]; omega)) (by first | omega | (simp only [List.length_take, List.length_drop, List.length_append, List.length_cons, List.length_nil, List.length_replicate, List.length_set, V.length_data, V.S_size]; omega)) ?_
 refine V.run T_ok 1 rfl ?_
 refine V.nil ?_
 refine V.tN ?_
 refine V.rnd ?_
 refine V.seq ?_
 have z79 : w53.heap.size ≤ w68.heap.size := by omega
 try clear z65
 try clear z66
 try clear z67
 try clear z68
 try clear z69
 try clear z70
 try clear z71
 try clear z72
 try clear z73
 try clear z74
 try clear z75
 try clear z76
 try clear z77
 try clear z78
 generalize hd2 : (rdN d1 1099511627776).2 = d2 at F65
 generalize hb2 : (b1 || decide (¬ (rdN d1 1099511627776).1.2 = 0)) = b2 at F66
 generalize hq2_0 : (rdN d1 1099511627776).1.1 = q2_0 at F67
 refine V.region ?_
 refine V.run T_ok 1 rfl ?_
 refine V.nil ?_
 refine V.tN ?_
 refine V.seq ?_
 refine V.condY rfl rfl ?_
 refine V.skip ?_
 refine V.tN ?_
 refine V.seq ?_
 refine V.block ?_
 refine V.seq ?_
 refine V.region ?_
 refine V.step rfl rfl (V.elem_run T_ok rfl rfl sz54 rfl rfl (by decide) (by decide) _) ?_
 refine V.loadO T_ok Fk43 rfl rfl rfl rfl rfl ?_
 refine V.run T_ok 1 rfl ?_
 refine V.nil ?_
 refine V.tN ?_
 refine V.region ?_
 refine V.run T_ok 2 rfl ?_
 refine V.call (tk_number (Ft := F66) (FX := F65) (Fx := F67) (off := 2) (hle := rfl) (n1 := by omega) (n2 := by omega) (n3 := by omega) (n4 := (by intro h; have := h.1; have := h.2; omega)) (n5 := (by intro h; have := h.1; have := h.2; omega))) rfl rfl rfl ?_
 rintro _ w83 ⟨rfl, F80, F81, F82, G84⟩
 obtain ⟨w85, G86, G87⟩ := V.Fr.cut G84
 clear G84
 have z88 := V.Fr.size G86
 first | replace F_b := F_b.mb G86 hD_b | clear F_b | skip
 first | replace Fk2 := Fk2.mv1 G86 (by omega) | clear Fk2 | skip
 first | replace Fk36 := Fk36.mv1 G86 (by omega) | clear Fk36 | skip
 first | replace Fk43 := Fk43.mv1 G86 (by omega) | clear Fk43 | skip
 first | replace F52 := F52.mv1 G86 (by omega) | clear F52 | skip
 first | replace F65 := F65.mv1 G86 (by first | exact ⟨by omega, by assumption⟩ | exact ⟨by omega, fun h => absurd h.1 (by assumption)⟩ | exact ⟨by omega, fun h => absurd h.1.1 (by assumption)⟩ | exact ⟨by omega, fun h => by first | (have h2 := h.1; have h3 := h.2; omega) | (have h2 := h; dsimp only at h2; omega)⟩ | first | omega | exact fun h => h | exact ⟨by omega, fun h => h⟩ | (intro h; first | (have := hD_b _ h; omega)) | (refine ⟨by omega, ?_⟩; intro h; first | (have := hD_b _ h; omega))) | clear F65 | skip
 first | replace F66 := F66.mv1 G86 (by omega) | clear F66 | skip
 first | replace F67 := F67.mv1 G86 (by omega) | clear F67 | skip
 replace HG := HG.n1 G86
 clear G86
 obtain ⟨w89, G90, G91⟩ := V.Fr.two G87
 clear G87
 have z92 := V.Fr.size G90
 first | replace F_b := F_b.mb G90 hD_b | clear F_b | skip
 first | replace Fk2 := Fk2.mv1 G90 (by omega) | clear Fk2 | skip
 first | replace Fk36 := Fk36.mv1 G90 (by omega) | clear Fk36 | skip
 first | replace Fk43 := Fk43.mv1 G90 (by omega) | clear Fk43 | skip
 first | replace F52 := F52.mv1 G90 (by omega) | clear F52 | skip
 first | replace F65 := F65.mv1 G90 (by first | exact ⟨by omega, by assumption⟩ | exact ⟨by omega, fun h => absurd h.1 (by assumption)⟩ | exact ⟨by omega, fun h => absurd h.1.1 (by assumption)⟩ | exact ⟨by omega, fun h => by first | (have h2 := h.1; have h3 := h.2; omega) | (have h2 := h; dsimp only at h2; omega)⟩ | first | omega | exact fun h => h | exact ⟨by omega, fun h => h⟩ | (intro h; first | (have := hD_b _ h; omega)) | (refine ⟨by omega, ?_⟩; intro h; first | (have := hD_b _ h; omega))) | clear F65 | skip
 first | replace F66 := F66.mv1 G90 (by omega) | clear F66 | skip
 first | replace F67 := F67.mv1 G90 (by omega) | clear F67 | skip
 replace HG := HG.n1 G90
 clear G90
 have z93 := V.Fr.size G91
 first | replace F_b := F_b.mb G91 hD_b | clear F_b | skip
 first | replace Fk2 := Fk2.mv1 G91 (by omega) | clear Fk2 | skip
 first | replace Fk36 := Fk36.mv1 G91 (by omega) | clear Fk36 | skip
 first | replace Fk43 := Fk43.mv1 G91 (by omega) | clear Fk43 | skip
 first | replace F52 := F52.mv1 G91 (by omega) | clear F52 | skip
 first | replace F65 := F65.mv1 G91 (by first | exact ⟨by omega, by assumption⟩ | exact ⟨by omega, fun h => absurd h.1 (by assumption)⟩ | exact ⟨by omega, fun h => absurd h.1.1 (by assumption)⟩ | exact ⟨by omega, fun h => by first | (have h2 := h.1; have h3 := h.2; omega) | (have h2 := h; dsimp only at h2; omega)⟩ | first | omega | exact fun h => h | exact ⟨by omega, fun h => h⟩ | (intro h; first | (have := hD_b _ h; omega)) | (refine ⟨by omega, ?_⟩; intro h; first | (have := hD_b _ h; omega))) | clear F65 | skip
 first | replace F66 := F66.mv1 G91 (by omega) | clear F66 | skip
 first | replace F67 := F67.mv1 G91 (by omega) | clear F67 | skip
 replace HG := HG.n1 G91
 clear G91
 simp only [V.spliceL, V.cellsL] at F82
 refine V.nil ?_
 refine V.bN ?_
 refine V.tN ?_
 refine V.region ?_
 refine V.addN rfl rfl rfl rfl rfl (by first | omega | (simp only [List.length_take, List.length_drop, List.length_append, List.length_cons, List.length_nil, List.length_replicate, List.length_set, V.length_data, V.S_size]; omega)) (by first | omega | (simp only [List.length_take, List.length_drop, List.length_append, List.length_cons, List.length_nil, List.length_replicate, List.length_set, V.length_data, V.S_size]; omega)) ?_
 refine V.run T_ok 1 rfl ?_
 refine V.nil ?_
 refine V.tN ?_
 refine V.rnd ?_
 refine V.seq ?_
 have z94 : w68.heap.size ≤ w83.heap.size := by omega
 try clear z80
 try clear z81
 try clear z82
 try clear z83
 try clear z84
 try clear z85
 try clear z86
 try clear z87
 try clear z88
 try clear z89
 try clear z90
 try clear z91
 try clear z92
 try clear z93
 generalize hd3 : (rdN d2 1099511627776).2 = d3 at F80
 generalize hb3 : (b2 || decide (¬ (rdN d2 1099511627776).1.2 = 0)) = b3 at F81
 generalize hq3_0 : (rdN d2 1099511627776).1.1 = q3_0 at F82
 refine V.region ?_
 refine V.run T_ok 1 rfl ?_
 refine V.nil ?_
 refine V.tN ?_
 refine V.seq ?_
 refine V.condY rfl rfl ?_
 refine V.skip ?_
 refine V.tN ?_
 refine V.seq ?_
 refine V.block ?_
 refine V.seq ?_
 refine V.region ?_
 refine V.step rfl rfl (V.elem_run T_ok rfl rfl sz54 rfl rfl (by decide) (by decide) _) ?_
 refine V.loadO T_ok Fk43 rfl rfl rfl rfl rfl ?_
 refine V.run T_ok 1 rfl ?_
 refine V.nil ?_
 refine V.tN ?_
 refine V.region ?_
 refine V.run T_ok 2 rfl ?_
 refine V.call (tk_number (Ft := F81) (FX := F80) (Fx := F82) (off := 3) (hle := rfl) (n1 := by omega) (n2 := by omega) (n3 := by omega) (n4 := (by intro h; have := h.1; have := h.2; omega)) (n5 := (by intro h; have := h.1; have := h.2; omega))) rfl rfl rfl ?_
 rintro _ w98 ⟨rfl, F95, F96, F97, G99⟩
 obtain ⟨w100, G101, G102⟩ := V.Fr.cut G99
 clear G99
 have z103 := V.Fr.size G101
 first | replace F_b := F_b.mb G101 hD_b | clear F_b | skip
 first | replace Fk2 := Fk2.mv1 G101 (by omega) | clear Fk2 | skip
 first | replace Fk36 := Fk36.mv1 G101 (by omega) | clear Fk36 | skip
 first | replace Fk43 := Fk43.mv1 G101 (by omega) | clear Fk43 | skip
 first | replace F52 := F52.mv1 G101 (by omega) | clear F52 | skip
 first | replace F80 := F80.mv1 G101 (by first | exact ⟨by omega, by assumption⟩ | exact ⟨by omega, fun h => absurd h.1 (by assumption)⟩ | exact ⟨by omega, fun h => absurd h.1.1 (by assumption)⟩ | exact ⟨by omega, fun h => by first | (have h2 := h.1; have h3 := h.2; omega) | (have h2 := h; dsimp only at h2; omega)⟩ | first | omega | exact fun h => h | exact ⟨by omega, fun h => h⟩ | (intro h; first | (have := hD_b _ h; omega)) | (refine ⟨by omega, ?_⟩; intro h; first | (have := hD_b _ h; omega))) | clear F80 | skip
 first | replace F81 := F81.mv1 G101 (by omega) | clear F81 | skip
 first | replace F82 := F82.mv1 G101 (by omega) | clear F82 | skip
 replace HG := HG.n1 G101
 clear G101
 obtain ⟨w104, G105, G106⟩ := V.Fr.two G102
 clear G102
 have z107 := V.Fr.size G105
 first | replace F_b := F_b.mb G105 hD_b | clear F_b | skip
 first | replace Fk2 := Fk2.mv1 G105 (by omega) | clear Fk2 | skip
 first | replace Fk36 := Fk36.mv1 G105 (by omega) | clear Fk36 | skip
 first | replace Fk43 := Fk43.mv1 G105 (by omega) | clear Fk43 | skip
 first | replace F52 := F52.mv1 G105 (by omega) | clear F52 | skip
 first | replace F80 := F80.mv1 G105 (by first | exact ⟨by omega, by assumption⟩ | exact ⟨by omega, fun h => absurd h.1 (by assumption)⟩ | exact ⟨by omega, fun h => absurd h.1.1 (by assumption)⟩ | exact ⟨by omega, fun h => by first | (have h2 := h.1; have h3 := h.2; omega) | (have h2 := h; dsimp only at h2; omega)⟩ | first | omega | exact fun h => h | exact ⟨by omega, fun h => h⟩ | (intro h; first | (have := hD_b _ h; omega)) | (refine ⟨by omega, ?_⟩; intro h; first | (have := hD_b _ h; omega))) | clear F80 | skip
 first | replace F81 := F81.mv1 G105 (by omega) | clear F81 | skip
 first | replace F82 := F82.mv1 G105 (by omega) | clear F82 | skip
 replace HG := HG.n1 G105
 clear G105
 have z108 := V.Fr.size G106
 first | replace F_b := F_b.mb G106 hD_b | clear F_b | skip
 first | replace Fk2 := Fk2.mv1 G106 (by omega) | clear Fk2 | skip
 first | replace Fk36 := Fk36.mv1 G106 (by omega) | clear Fk36 | skip
 first | replace Fk43 := Fk43.mv1 G106 (by omega) | clear Fk43 | skip
 first | replace F52 := F52.mv1 G106 (by omega) | clear F52 | skip
 first | replace F80 := F80.mv1 G106 (by first | exact ⟨by omega, by assumption⟩ | exact ⟨by omega, fun h => absurd h.1 (by assumption)⟩ | exact ⟨by omega, fun h => absurd h.1.1 (by assumption)⟩ | exact ⟨by omega, fun h => by first | (have h2 := h.1; have h3 := h.2; omega) | (have h2 := h; dsimp only at h2; omega)⟩ | first | omega | exact fun h => h | exact ⟨by omega, fun h => h⟩ | (intro h; first | (have := hD_b _ h; omega)) | (refine ⟨by omega, ?_⟩; intro h; first | (have := hD_b _ h; omega))) | clear F80 | skip
 first | replace F81 := F81.mv1 G106 (by omega) | clear F81 | skip
 first | replace F82 := F82.mv1 G106 (by omega) | clear F82 | skip
 replace HG := HG.n1 G106
 clear G106
 simp only [V.spliceL, V.cellsL] at F97
 refine V.nil ?_
 refine V.bN ?_
 refine V.tN ?_
 refine V.region ?_
 refine V.addN rfl rfl rfl rfl rfl (by first | omega | (simp only [List.length_take, List.length_drop, List.length_append, List.length_cons, List.length_nil, List.length_replicate, List.length_set, V.length_data, V.S_size]; omega)) (by first | omega | (simp only [List.length_take, List.length_drop, List.length_append, List.length_cons, List.length_nil, List.length_replicate, List.length_set, V.length_data, V.S_size]; omega)) ?_
 refine V.run T_ok 1 rfl ?_
 refine V.nil ?_
 refine V.tN ?_
 refine V.rnd ?_
 refine V.seq ?_
 have z109 : w83.heap.size ≤ w98.heap.size := by omega
 try clear z95
 try clear z96
 try clear z97
 try clear z98
 try clear z99
 try clear z100
 try clear z101
 try clear z102
 try clear z103
 try clear z104
 try clear z105
 try clear z106
 try clear z107
 try clear z108
 generalize hd4 : (rdN d3 1099511627776).2 = d4 at F95
 generalize hb4 : (b3 || decide (¬ (rdN d3 1099511627776).1.2 = 0)) = b4 at F96
 generalize hq4_0 : (rdN d3 1099511627776).1.1 = q4_0 at F97
 refine V.region ?_
 refine V.run T_ok 1 rfl ?_
 refine V.nil ?_
 refine V.tN ?_
 refine V.seq ?_
 refine V.condY rfl rfl ?_
 refine V.skip ?_
 refine V.tN ?_
 refine V.seq ?_
 refine V.block ?_
 refine V.seq ?_
 refine V.region ?_
 refine V.step rfl rfl (V.elem_run T_ok rfl rfl sz54 rfl rfl (by decide) (by decide) _) ?_
 refine V.loadO T_ok Fk43 rfl rfl rfl rfl rfl ?_
 refine V.run T_ok 1 rfl ?_
 refine V.nil ?_
 refine V.tN ?_
 refine V.region ?_
 refine V.run T_ok 2 rfl ?_
 refine V.call (tk_number (Ft := F96) (FX := F95) (Fx := F97) (off := 4) (hle := rfl) (n1 := by omega) (n2 := by omega) (n3 := by omega) (n4 := (by intro h; have := h.1; have := h.2; omega)) (n5 := (by intro h; have := h.1; have := h.2; omega))) rfl rfl rfl ?_
 rintro _ w113 ⟨rfl, F110, F111, F112, G114⟩
 obtain ⟨w115, G116, G117⟩ := V.Fr.cut G114
 clear G114
 have z118 := V.Fr.size G116
 first | replace F_b := F_b.mb G116 hD_b | clear F_b | skip
 first | replace Fk2 := Fk2.mv1 G116 (by omega) | clear Fk2 | skip
 first | replace Fk36 := Fk36.mv1 G116 (by omega) | clear Fk36 | skip
 first | replace Fk43 := Fk43.mv1 G116 (by omega) | clear Fk43 | skip
 first | replace F52 := F52.mv1 G116 (by omega) | clear F52 | skip
 first | replace F95 := F95.mv1 G116 (by first | exact ⟨by omega, by assumption⟩ | exact ⟨by omega, fun h => absurd h.1 (by assumption)⟩ | exact ⟨by omega, fun h => absurd h.1.1 (by assumption)⟩ | exact ⟨by omega, fun h => by first | (have h2 := h.1; have h3 := h.2; omega) | (have h2 := h; dsimp only at h2; omega)⟩ | first | omega | exact fun h => h | exact ⟨by omega, fun h => h⟩ | (intro h; first | (have := hD_b _ h; omega)) | (refine ⟨by omega, ?_⟩; intro h; first | (have := hD_b _ h; omega))) | clear F95 | skip
 first | replace F96 := F96.mv1 G116 (by omega) | clear F96 | skip
 first | replace F97 := F97.mv1 G116 (by omega) | clear F97 | skip
 replace HG := HG.n1 G116
 clear G116
 obtain ⟨w119, G120, G121⟩ := V.Fr.two G117
 clear G117
 have z122 := V.Fr.size G120
 first | replace F_b := F_b.mb G120 hD_b | clear F_b | skip
 first | replace Fk2 := Fk2.mv1 G120 (by omega) | clear Fk2 | skip
 first | replace Fk36 := Fk36.mv1 G120 (by omega) | clear Fk36 | skip
 first | replace Fk43 := Fk43.mv1 G120 (by omega) | clear Fk43 | skip
 first | replace F52 := F52.mv1 G120 (by omega) | clear F52 | skip
 first | replace F95 := F95.mv1 G120 (by first | exact ⟨by omega, by assumption⟩ | exact ⟨by omega, fun h => absurd h.1 (by assumption)⟩ | exact ⟨by omega, fun h => absurd h.1.1 (by assumption)⟩ | exact ⟨by omega, fun h => by first | (have h2 := h.1; have h3 := h.2; omega) | (have h2 := h; dsimp only at h2; omega)⟩ | first | omega | exact fun h => h | exact ⟨by omega, fun h => h⟩ | (intro h; first | (have := hD_b _ h; omega)) | (refine ⟨by omega, ?_⟩; intro h; first | (have := hD_b _ h; omega))) | clear F95 | skip
 first | replace F96 := F96.mv1 G120 (by omega) | clear F96 | skip
 first | replace F97 := F97.mv1 G120 (by omega) | clear F97 | skip
 replace HG := HG.n1 G120
 clear G120
 have z123 := V.Fr.size G121
 first | replace F_b := F_b.mb G121 hD_b | clear F_b | skip
 first | replace Fk2 := Fk2.mv1 G121 (by omega) | clear Fk2 | skip
 first | replace Fk36 := Fk36.mv1 G121 (by omega) | clear Fk36 | skip
 first | replace Fk43 := Fk43.mv1 G121 (by omega) | clear Fk43 | skip
 first | replace F52 := F52.mv1 G121 (by omega) | clear F52 | skip
 first | replace F95 := F95.mv1 G121 (by first | exact ⟨by omega, by assumption⟩ | exact ⟨by omega, fun h => absurd h.1 (by assumption)⟩ | exact ⟨by omega, fun h => absurd h.1.1 (by assumption)⟩ | exact ⟨by omega, fun h => by first | (have h2 := h.1; have h3 := h.2; omega) | (have h2 := h; dsimp only at h2; omega)⟩ | first | omega | exact fun h => h | exact ⟨by omega, fun h => h⟩ | (intro h; first | (have := hD_b _ h; omega)) | (refine ⟨by omega, ?_⟩; intro h; first | (have := hD_b _ h; omega))) | clear F95 | skip
 first | replace F96 := F96.mv1 G121 (by omega) | clear F96 | skip
 first | replace F97 := F97.mv1 G121 (by omega) | clear F97 | skip
 replace HG := HG.n1 G121
 clear G121
 simp only [V.spliceL, V.cellsL] at F112
 refine V.nil ?_
 refine V.bN ?_
 refine V.tN ?_
 refine V.region ?_
 refine V.addN rfl rfl rfl rfl rfl (by first | omega | (simp only [List.length_take, List.length_drop, List.length_append, List.length_cons, List.length_nil, List.length_replicate, List.length_set, V.length_data, V.S_size]; omega)) (by first | omega | (simp only [List.length_take, List.length_drop, List.length_append, List.length_cons, List.length_nil, List.length_replicate, List.length_set, V.length_data, V.S_size]; omega)) ?_
 refine V.run T_ok 1 rfl ?_
 refine V.nil ?_
 refine V.tN ?_
 refine V.rnd ?_
 refine V.seq ?_
 have z124 : w98.heap.size ≤ w113.heap.size := by omega
 try clear z110
 try clear z111
 try clear z112
 try clear z113
 try clear z114
 try clear z115
 try clear z116
 try clear z117
 try clear z118
 try clear z119
 try clear z120
 try clear z121
 try clear z122
 try clear z123
 generalize hd5 : (rdN d4 1099511627776).2 = d5 at F110
 generalize hb5 : (b4 || decide (¬ (rdN d4 1099511627776).1.2 = 0)) = b5 at F111
 generalize hq5_0 : (rdN d4 1099511627776).1.1 = q5_0 at F112
 refine V.region ?_
 refine V.run T_ok 1 rfl ?_
 refine V.nil ?_
 refine V.tN ?_
 refine V.seq ?_
 refine V.condY rfl rfl ?_
 refine V.skip ?_
 refine V.tN ?_
 refine V.seq ?_
 refine V.block ?_
 refine V.seq ?_
 refine V.region ?_
 refine V.step rfl rfl (V.elem_run T_ok rfl rfl sz54 rfl rfl (by decide) (by decide) _) ?_
 refine V.loadO T_ok Fk43 rfl rfl rfl rfl rfl ?_
 refine V.run T_ok 1 rfl ?_
 refine V.nil ?_
 refine V.tN ?_
 refine V.region ?_
 refine V.run T_ok 2 rfl ?_
 refine V.call (tk_number (Ft := F111) (FX := F110) (Fx := F112) (off := 5) (hle := rfl) (n1 := by omega) (n2 := by omega) (n3 := by omega) (n4 := (by intro h; have := h.1; have := h.2; omega)) (n5 := (by intro h; have := h.1; have := h.2; omega))) rfl rfl rfl ?_
 rintro _ w128 ⟨rfl, F125, F126, F127, G129⟩
 obtain ⟨w130, G131, G132⟩ := V.Fr.cut G129
 clear G129
 have z133 := V.Fr.size G131
 first | replace F_b := F_b.mb G131 hD_b | clear F_b | skip
 first | replace Fk2 := Fk2.mv1 G131 (by omega) | clear Fk2 | skip
 first | replace Fk36 := Fk36.mv1 G131 (by omega) | clear Fk36 | skip
 first | replace Fk43 := Fk43.mv1 G131 (by omega) | clear Fk43 | skip
 first | replace F52 := F52.mv1 G131 (by omega) | clear F52 | skip
 first | replace F110 := F110.mv1 G131 (by first | exact ⟨by omega, by assumption⟩ | exact ⟨by omega, fun h => absurd h.1 (by assumption)⟩ | exact ⟨by omega, fun h => absurd h.1.1 (by assumption)⟩ | exact ⟨by omega, fun h => by first | (have h2 := h.1; have h3 := h.2; omega) | (have h2 := h; dsimp only at h2; omega)⟩ | first | omega | exact fun h => h | exact ⟨by omega, fun h => h⟩ | (intro h; first | (have := hD_b _ h; omega)) | (refine ⟨by omega, ?_⟩; intro h; first | (have := hD_b _ h; omega))) | clear F110 | skip
 first | replace F111 := F111.mv1 G131 (by omega) | clear F111 | skip
 first | replace F112 := F112.mv1 G131 (by omega) | clear F112 | skip
 replace HG := HG.n1 G131
 clear G131
 obtain ⟨w134, G135, G136⟩ := V.Fr.two G132
 clear G132
 have z137 := V.Fr.size G135
 first | replace F_b := F_b.mb G135 hD_b | clear F_b | skip
 first | replace Fk2 := Fk2.mv1 G135 (by omega) | clear Fk2 | skip
 first | replace Fk36 := Fk36.mv1 G135 (by omega) | clear Fk36 | skip
 first | replace Fk43 := Fk43.mv1 G135 (by omega) | clear Fk43 | skip
 first | replace F52 := F52.mv1 G135 (by omega) | clear F52 | skip
 first | replace F110 := F110.mv1 G135 (by first | exact ⟨by omega, by assumption⟩ | exact ⟨by omega, fun h => absurd h.1 (by assumption)⟩ | exact ⟨by omega, fun h => absurd h.1.1 (by assumption)⟩ | exact ⟨by omega, fun h => by first | (have h2 := h.1; have h3 := h.2; omega) | (have h2 := h; dsimp only at h2; omega)⟩ | first | omega | exact fun h => h | exact ⟨by omega, fun h => h⟩ | (intro h; first | (have := hD_b _ h; omega)) | (refine ⟨by omega, ?_⟩; intro h; first | (have := hD_b _ h; omega))) | clear F110 | skip
 first | replace F111 := F111.mv1 G135 (by omega) | clear F111 | skip
 first | replace F112 := F112.mv1 G135 (by omega) | clear F112 | skip
 replace HG := HG.n1 G135
 clear G135
 have z138 := V.Fr.size G136
 first | replace F_b := F_b.mb G136 hD_b | clear F_b | skip
 first | replace Fk2 := Fk2.mv1 G136 (by omega) | clear Fk2 | skip
 first | replace Fk36 := Fk36.mv1 G136 (by omega) | clear Fk36 | skip
 first | replace Fk43 := Fk43.mv1 G136 (by omega) | clear Fk43 | skip
 first | replace F52 := F52.mv1 G136 (by omega) | clear F52 | skip
 first | replace F110 := F110.mv1 G136 (by first | exact ⟨by omega, by assumption⟩ | exact ⟨by omega, fun h => absurd h.1 (by assumption)⟩ | exact ⟨by omega, fun h => absurd h.1.1 (by assumption)⟩ | exact ⟨by omega, fun h => by first | (have h2 := h.1; have h3 := h.2; omega) | (have h2 := h; dsimp only at h2; omega)⟩ | first | omega | exact fun h => h | exact ⟨by omega, fun h => h⟩ | (intro h; first | (have := hD_b _ h; omega)) | (refine ⟨by omega, ?_⟩; intro h; first | (have := hD_b _ h; omega))) | clear F110 | skip
 first | replace F111 := F111.mv1 G136 (by omega) | clear F111 | skip
 first | replace F112 := F112.mv1 G136 (by omega) | clear F112 | skip
 replace HG := HG.n1 G136
 clear G136
 simp only [V.spliceL, V.cellsL] at F127
 refine V.nil ?_
 refine V.bN ?_
 refine V.tN ?_
 refine V.region ?_
 refine V.addN rfl rfl rfl rfl rfl (by first | omega | (simp only [List.length_take, List.length_drop, List.length_append, List.length_cons, List.length_nil, List.length_replicate, List.length_set, V.length_data, V.S_size]; omega)) (by first | omega | (simp only [List.length_take, List.length_drop, List.length_append, List.length_cons, List.length_nil, List.length_replicate, List.length_set, V.length_data, V.S_size]; omega)) ?_
 refine V.run T_ok 1 rfl ?_
 refine V.nil ?_
 refine V.tN ?_
 refine V.rnd ?_
 refine V.seq ?_
 have z139 : w113.heap.size ≤ w128.heap.size := by omega
 try clear z125
 try clear z126
 try clear z127
 try clear z128
 try clear z129
 try clear z130
 try clear z131
 try clear z132
 try clear z133
 try clear z134
 try clear z135
 try clear z136
 try clear z137
 try clear z138
 generalize hd6 : (rdN d5 1099511627776).2 = d6 at F125
 generalize hb6 : (b5 || decide (¬ (rdN d5 1099511627776).1.2 = 0)) = b6 at F126
 generalize hq6_0 : (rdN d5 1099511627776).1.1 = q6_0 at F127
 refine V.region ?_
 refine V.run T_ok 1 rfl ?_
 refine V.nil ?_
 refine V.tN ?_
 refine V.seq ?_
 refine V.condN rfl rfl ?_
 refine V.exit ?_
 refine V.tX ?_
 refine V.tX ?_
 refine V.bE ?_
 refine V.tN ?_
 refine V.seq ?_
 refine V.region ?_
 refine V.run T_ok 3 rfl ?_
 refine V.call (tk_text (Ft := F126) (FX := F125) (Fx := F127) (off := 6) (hle := rfl) (n1 := by omega) (n2 := by omega) (n3 := by omega) (n4 := (by intro h; have := h.1; have := h.2; omega)) (n5 := (by intro h; have := h.1; have := h.2; omega))) rfl rfl rfl ?_
 rintro _ w143 ⟨rfl, F140, F141, F142, G144⟩
 obtain ⟨w145, G146, G147⟩ := V.Fr.cut G144
 clear G144
 have z148 := V.Fr.size G146
 first | replace F_b := F_b.mb G146 hD_b | clear F_b | skip
 first | replace Fk2 := Fk2.mv1 G146 (by omega) | clear Fk2 | skip
 first | replace Fk36 := Fk36.mv1 G146 (by omega) | clear Fk36 | skip
 first | replace Fk43 := Fk43.mv1 G146 (by omega) | clear Fk43 | skip
 first | replace F52 := F52.mv1 G146 (by omega) | clear F52 | skip
 first | replace F125 := F125.mv1 G146 (by first | exact ⟨by omega, by assumption⟩ | exact ⟨by omega, fun h => absurd h.1 (by assumption)⟩ | exact ⟨by omega, fun h => absurd h.1.1 (by assumption)⟩ | exact ⟨by omega, fun h => by first | (have h2 := h.1; have h3 := h.2; omega) | (have h2 := h; dsimp only at h2; omega)⟩ | first | omega | exact fun h => h | exact ⟨by omega, fun h => h⟩ | (intro h; first | (have := hD_b _ h; omega)) | (refine ⟨by omega, ?_⟩; intro h; first | (have := hD_b _ h; omega))) | clear F125 | skip
 first | replace F126 := F126.mv1 G146 (by omega) | clear F126 | skip
 first | replace F127 := F127.mv1 G146 (by omega) | clear F127 | skip
 replace HG := HG.n1 G146
 clear G146
 obtain ⟨w149, G150, G151⟩ := V.Fr.two G147
 clear G147
 have z152 := V.Fr.size G150
 first | replace F_b := F_b.mb G150 hD_b | clear F_b | skip
 first | replace Fk2 := Fk2.mv1 G150 (by omega) | clear Fk2 | skip
 first | replace Fk36 := Fk36.mv1 G150 (by omega) | clear Fk36 | skip
 first | replace Fk43 := Fk43.mv1 G150 (by omega) | clear Fk43 | skip
 first | replace F52 := F52.mv1 G150 (by omega) | clear F52 | skip
 first | replace F125 := F125.mv1 G150 (by first | exact ⟨by omega, by assumption⟩ | exact ⟨by omega, fun h => absurd h.1 (by assumption)⟩ | exact ⟨by omega, fun h => absurd h.1.1 (by assumption)⟩ | exact ⟨by omega, fun h => by first | (have h2 := h.1; have h3 := h.2; omega) | (have h2 := h; dsimp only at h2; omega)⟩ | first | omega | exact fun h => h | exact ⟨by omega, fun h => h⟩ | (intro h; first | (have := hD_b _ h; omega)) | (refine ⟨by omega, ?_⟩; intro h; first | (have := hD_b _ h; omega))) | clear F125 | skip
 first | replace F126 := F126.mv1 G150 (by omega) | clear F126 | skip
 first | replace F127 := F127.mv1 G150 (by omega) | clear F127 | skip
 replace HG := HG.n1 G150
 clear G150
 have z153 := V.Fr.size G151
 first | replace F_b := F_b.mb G151 hD_b | clear F_b | skip
 first | replace Fk2 := Fk2.mv1 G151 (by omega) | clear Fk2 | skip
 first | replace Fk36 := Fk36.mv1 G151 (by omega) | clear Fk36 | skip
 first | replace Fk43 := Fk43.mv1 G151 (by omega) | clear Fk43 | skip
 first | replace F52 := F52.mv1 G151 (by omega) | clear F52 | skip
 first | replace F125 := F125.mv1 G151 (by first | exact ⟨by omega, by assumption⟩ | exact ⟨by omega, fun h => absurd h.1 (by assumption)⟩ | exact ⟨by omega, fun h => absurd h.1.1 (by assumption)⟩ | exact ⟨by omega, fun h => by first | (have h2 := h.1; have h3 := h.2; omega) | (have h2 := h; dsimp only at h2; omega)⟩ | first | omega | exact fun h => h | exact ⟨by omega, fun h => h⟩ | (intro h; first | (have := hD_b _ h; omega)) | (refine ⟨by omega, ?_⟩; intro h; first | (have := hD_b _ h; omega))) | clear F125 | skip
 first | replace F126 := F126.mv1 G151 (by omega) | clear F126 | skip
 first | replace F127 := F127.mv1 G151 (by omega) | clear F127 | skip
 replace HG := HG.n1 G151
 clear G151
 simp only [V.spliceL, V.cellsL] at F142
 refine V.nil ?_
 refine V.tN ?_
 refine V.seq ?_
 have z154 : w128.heap.size ≤ w143.heap.size := by omega
 try clear z140
 try clear z141
 try clear z142
 try clear z143
 try clear z144
 try clear z145
 try clear z146
 try clear z147
 try clear z148
 try clear z149
 try clear z150
 try clear z151
 try clear z152
 try clear z153
 generalize hd7 : (rdT d6 65536).2 = d7 at F140
 generalize hb7 : (b6 || decide (¬ (rdT d6 65536).1.2 = 0)) = b7 at F141
 generalize hq7_0 : S (rdT d6 65536).1.1 = q7_0 at F142
 have hz7 := szT hq7_0
 refine V.region ?_
 refine V.run T_ok 3 rfl ?_
 refine V.call (tk_stamp (Ft := F141) (FX := F140) (Fx := F142) (off := 7) (hle := rfl) (n1 := by omega) (n2 := by omega) (n3 := by omega) (n4 := (by intro h; have := h.1; have := h.2; omega)) (n5 := (by intro h; have := h.1; have := h.2; omega))) rfl rfl rfl ?_
 rintro _ w158 ⟨rfl, F155, F156, F157, G159⟩
 obtain ⟨w160, G161, G162⟩ := V.Fr.cut G159
 clear G159
 have z163 := V.Fr.size G161
 first | replace F_b := F_b.mb G161 hD_b | clear F_b | skip
 first | replace Fk2 := Fk2.mv1 G161 (by omega) | clear Fk2 | skip
 first | replace Fk36 := Fk36.mv1 G161 (by omega) | clear Fk36 | skip
 first | replace Fk43 := Fk43.mv1 G161 (by omega) | clear Fk43 | skip
 first | replace F52 := F52.mv1 G161 (by omega) | clear F52 | skip
 first | replace F140 := F140.mv1 G161 (by first | exact ⟨by omega, by assumption⟩ | exact ⟨by omega, fun h => absurd h.1 (by assumption)⟩ | exact ⟨by omega, fun h => absurd h.1.1 (by assumption)⟩ | exact ⟨by omega, fun h => by first | (have h2 := h.1; have h3 := h.2; omega) | (have h2 := h; dsimp only at h2; omega)⟩ | first | omega | exact fun h => h | exact ⟨by omega, fun h => h⟩ | (intro h; first | (have := hD_b _ h; omega)) | (refine ⟨by omega, ?_⟩; intro h; first | (have := hD_b _ h; omega))) | clear F140 | skip
 first | replace F141 := F141.mv1 G161 (by omega) | clear F141 | skip
 first | replace F142 := F142.mv1 G161 (by omega) | clear F142 | skip
 replace HG := HG.n1 G161
 clear G161
 obtain ⟨w164, G165, G166⟩ := V.Fr.two G162
 clear G162
 have z167 := V.Fr.size G165
 first | replace F_b := F_b.mb G165 hD_b | clear F_b | skip
 first | replace Fk2 := Fk2.mv1 G165 (by omega) | clear Fk2 | skip
 first | replace Fk36 := Fk36.mv1 G165 (by omega) | clear Fk36 | skip
 first | replace Fk43 := Fk43.mv1 G165 (by omega) | clear Fk43 | skip
 first | replace F52 := F52.mv1 G165 (by omega) | clear F52 | skip
 first | replace F140 := F140.mv1 G165 (by first | exact ⟨by omega, by assumption⟩ | exact ⟨by omega, fun h => absurd h.1 (by assumption)⟩ | exact ⟨by omega, fun h => absurd h.1.1 (by assumption)⟩ | exact ⟨by omega, fun h => by first | (have h2 := h.1; have h3 := h.2; omega) | (have h2 := h; dsimp only at h2; omega)⟩ | first | omega | exact fun h => h | exact ⟨by omega, fun h => h⟩ | (intro h; first | (have := hD_b _ h; omega)) | (refine ⟨by omega, ?_⟩; intro h; first | (have := hD_b _ h; omega))) | clear F140 | skip
 first | replace F141 := F141.mv1 G165 (by omega) | clear F141 | skip
 first | replace F142 := F142.mv1 G165 (by omega) | clear F142 | skip
 replace HG := HG.n1 G165
 clear G165
 have z168 := V.Fr.size G166
 first | replace F_b := F_b.mb G166 hD_b | clear F_b | skip
 first | replace Fk2 := Fk2.mv1 G166 (by omega) | clear Fk2 | skip
 first | replace Fk36 := Fk36.mv1 G166 (by omega) | clear Fk36 | skip
 first | replace Fk43 := Fk43.mv1 G166 (by omega) | clear Fk43 | skip
 first | replace F52 := F52.mv1 G166 (by omega) | clear F52 | skip
 first | replace F140 := F140.mv1 G166 (by first | exact ⟨by omega, by assumption⟩ | exact ⟨by omega, fun h => absurd h.1 (by assumption)⟩ | exact ⟨by omega, fun h => absurd h.1.1 (by assumption)⟩ | exact ⟨by omega, fun h => by first | (have h2 := h.1; have h3 := h.2; omega) | (have h2 := h; dsimp only at h2; omega)⟩ | first | omega | exact fun h => h | exact ⟨by omega, fun h => h⟩ | (intro h; first | (have := hD_b _ h; omega)) | (refine ⟨by omega, ?_⟩; intro h; first | (have := hD_b _ h; omega))) | clear F140 | skip
 first | replace F141 := F141.mv1 G166 (by omega) | clear F141 | skip
 first | replace F142 := F142.mv1 G166 (by omega) | clear F142 | skip
 replace HG := HG.n1 G166
 clear G166
 simp only [V.spliceL, V.cellsL] at F157
 refine V.nil ?_
 refine V.tN ?_
 refine V.seq ?_
 have z169 : w143.heap.size ≤ w158.heap.size := by omega
 try clear z155
 try clear z156
 try clear z157
 try clear z158
 try clear z159
 try clear z160
 try clear z161
 try clear z162
 try clear z163
 try clear z164
 try clear z165
 try clear z166
 try clear z167
 try clear z168
 generalize hd8 : (rdS d7).2 = d8 at F155
 generalize hb8 : (b7 || decide (¬ (rdS d7).1.2 = 0)) = b8 at F156
 generalize hq8_0 : (rdS d7).1.1.1 = q8_0 at F157
 generalize hq8_1 : (rdS d7).1.1.2 = q8_1 at F157
 refine V.region ?_
 refine V.run T_ok 2 rfl ?_
 refine V.call (tk_number (Ft := F156) (FX := F155) (Fx := F157) (off := 9) (hle := rfl) (n1 := by omega) (n2 := by omega) (n3 := by omega) (n4 := (by intro h; have := h.1; have := h.2; omega)) (n5 := (by intro h; have := h.1; have := h.2; omega))) rfl rfl rfl ?_
 rintro _ w173 ⟨rfl, F170, F171, F172, G174⟩
 obtain ⟨w175, G176, G177⟩ := V.Fr.cut G174
 clear G174
 have z178 := V.Fr.size G176
 first | replace F_b := F_b.mb G176 hD_b | clear F_b | skip
 first | replace Fk2 := Fk2.mv1 G176 (by omega) | clear Fk2 | skip
 first | replace Fk36 := Fk36.mv1 G176 (by omega) | clear Fk36 | skip
 first | replace Fk43 := Fk43.mv1 G176 (by omega) | clear Fk43 | skip
 first | replace F52 := F52.mv1 G176 (by omega) | clear F52 | skip
 first | replace F155 := F155.mv1 G176 (by first | exact ⟨by omega, by assumption⟩ | exact ⟨by omega, fun h => absurd h.1 (by assumption)⟩ | exact ⟨by omega, fun h => absurd h.1.1 (by assumption)⟩ | exact ⟨by omega, fun h => by first | (have h2 := h.1; have h3 := h.2; omega) | (have h2 := h; dsimp only at h2; omega)⟩ | first | omega | exact fun h => h | exact ⟨by omega, fun h => h⟩ | (intro h; first | (have := hD_b _ h; omega)) | (refine ⟨by omega, ?_⟩; intro h; first | (have := hD_b _ h; omega))) | clear F155 | skip
 first | replace F156 := F156.mv1 G176 (by omega) | clear F156 | skip
 first | replace F157 := F157.mv1 G176 (by omega) | clear F157 | skip
 replace HG := HG.n1 G176
 clear G176
 obtain ⟨w179, G180, G181⟩ := V.Fr.two G177
 clear G177
 have z182 := V.Fr.size G180
 first | replace F_b := F_b.mb G180 hD_b | clear F_b | skip
 first | replace Fk2 := Fk2.mv1 G180 (by omega) | clear Fk2 | skip
 first | replace Fk36 := Fk36.mv1 G180 (by omega) | clear Fk36 | skip
 first | replace Fk43 := Fk43.mv1 G180 (by omega) | clear Fk43 | skip
 first | replace F52 := F52.mv1 G180 (by omega) | clear F52 | skip
 first | replace F155 := F155.mv1 G180 (by first | exact ⟨by omega, by assumption⟩ | exact ⟨by omega, fun h => absurd h.1 (by assumption)⟩ | exact ⟨by omega, fun h => absurd h.1.1 (by assumption)⟩ | exact ⟨by omega, fun h => by first | (have h2 := h.1; have h3 := h.2; omega) | (have h2 := h; dsimp only at h2; omega)⟩ | first | omega | exact fun h => h | exact ⟨by omega, fun h => h⟩ | (intro h; first | (have := hD_b _ h; omega)) | (refine ⟨by omega, ?_⟩; intro h; first | (have := hD_b _ h; omega))) | clear F155 | skip
 first | replace F156 := F156.mv1 G180 (by omega) | clear F156 | skip
 first | replace F157 := F157.mv1 G180 (by omega) | clear F157 | skip
 replace HG := HG.n1 G180
 clear G180
 have z183 := V.Fr.size G181
 first | replace F_b := F_b.mb G181 hD_b | clear F_b | skip
 first | replace Fk2 := Fk2.mv1 G181 (by omega) | clear Fk2 | skip
 first | replace Fk36 := Fk36.mv1 G181 (by omega) | clear Fk36 | skip
 first | replace Fk43 := Fk43.mv1 G181 (by omega) | clear Fk43 | skip
 first | replace F52 := F52.mv1 G181 (by omega) | clear F52 | skip
 first | replace F155 := F155.mv1 G181 (by first | exact ⟨by omega, by assumption⟩ | exact ⟨by omega, fun h => absurd h.1 (by assumption)⟩ | exact ⟨by omega, fun h => absurd h.1.1 (by assumption)⟩ | exact ⟨by omega, fun h => by first | (have h2 := h.1; have h3 := h.2; omega) | (have h2 := h; dsimp only at h2; omega)⟩ | first | omega | exact fun h => h | exact ⟨by omega, fun h => h⟩ | (intro h; first | (have := hD_b _ h; omega)) | (refine ⟨by omega, ?_⟩; intro h; first | (have := hD_b _ h; omega))) | clear F155 | skip
 first | replace F156 := F156.mv1 G181 (by omega) | clear F156 | skip
 first | replace F157 := F157.mv1 G181 (by omega) | clear F157 | skip
 replace HG := HG.n1 G181
 clear G181
 simp only [V.spliceL, V.cellsL] at F172
 refine V.nil ?_
 refine V.tN ?_
 refine V.seq ?_
 refine V.seq ?_
 have z184 : w158.heap.size ≤ w173.heap.size := by omega
 try clear z170
 try clear z171
 try clear z172
 try clear z173
 try clear z174
 try clear z175
 try clear z176
 try clear z177
 try clear z178
 try clear z179
 try clear z180
 try clear z181
 try clear z182
 try clear z183
 generalize hd9 : (rdN d8 1099511627776).2 = d9 at F170
 generalize hb9 : (b8 || decide (¬ (rdN d8 1099511627776).1.2 = 0)) = b9 at F171
 generalize hq9_0 : (rdN d8 1099511627776).1.1 = q9_0 at F172
 refine V.region ?_
 refine V.run T_ok 5 rfl ?_
 refine V.mkSlice T_ok zero58 rfl rfl sz58 rfl rfl rfl rfl rfl rfl ?_
 rintro k185 w188 s190 s191 G189 Fk186
 have z192 := V.Fr.size G189
 try replace F_b := F_b.gr G189
 try replace Fk2 := Fk2.gr G189
 try replace Fk36 := Fk36.gr G189
 try replace Fk43 := Fk43.gr G189
 try replace F52 := F52.gr G189
 try replace F170 := F170.gr G189
 try replace F171 := F171.gr G189
 try replace F172 := F172.gr G189
 replace HG := HG.grow G189
 clear G189
 refine V.run T_ok 2 rfl ?_
 refine V.nil ?_
 refine V.tN ?_
 refine V.block ?_
 refine V.loopR 4 ?_
 refine V.rnd ?_
 refine V.seq ?_
 refine V.region ?_
 refine V.run T_ok 1 rfl ?_
 refine V.nil ?_
 refine V.tN ?_
 refine V.seq ?_
 refine V.condY rfl rfl ?_
 refine V.skip ?_
 refine V.tN ?_
 refine V.seq ?_
 refine V.block ?_
 refine V.seq ?_
 refine V.region ?_
 refine V.step rfl rfl (V.elem_run T_ok rfl rfl sz58 rfl rfl (by decide) (by decide) _) ?_
 refine V.loadO T_ok Fk186 rfl rfl rfl rfl rfl ?_
 refine V.run T_ok 1 rfl ?_
 refine V.nil ?_
 refine V.tN ?_
 refine V.region ?_
 refine V.run T_ok 2 rfl ?_
 refine V.call (tk_text (Ft := F171) (FX := F170) (Fx := F172) (off := 10) (hle := rfl) (n1 := by omega) (n2 := by omega) (n3 := by omega) (n4 := (by intro h; have := h.1; have := h.2; omega)) (n5 := (by intro h; have := h.1; have := h.2; omega))) rfl rfl rfl ?_
 rintro _ w196 ⟨rfl, F193, F194, F195, G197⟩
 obtain ⟨w198, G199, G200⟩ := V.Fr.cut G197
 clear G197
 have z201 := V.Fr.size G199
 first | replace F_b := F_b.mb G199 hD_b | clear F_b | skip
 first | replace Fk2 := Fk2.mv1 G199 (by omega) | clear Fk2 | skip
 first | replace Fk36 := Fk36.mv1 G199 (by omega) | clear Fk36 | skip
 first | replace Fk43 := Fk43.mv1 G199 (by omega) | clear Fk43 | skip
 first | replace F52 := F52.mv1 G199 (by omega) | clear F52 | skip
 first | replace F170 := F170.mv1 G199 (by first | exact ⟨by omega, by assumption⟩ | exact ⟨by omega, fun h => absurd h.1 (by assumption)⟩ | exact ⟨by omega, fun h => absurd h.1.1 (by assumption)⟩ | exact ⟨by omega, fun h => by first | (have h2 := h.1; have h3 := h.2; omega) | (have h2 := h; dsimp only at h2; omega)⟩ | first | omega | exact fun h => h | exact ⟨by omega, fun h => h⟩ | (intro h; first | (have := hD_b _ h; omega)) | (refine ⟨by omega, ?_⟩; intro h; first | (have := hD_b _ h; omega))) | clear F170 | skip
 first | replace F171 := F171.mv1 G199 (by omega) | clear F171 | skip
 first | replace F172 := F172.mv1 G199 (by omega) | clear F172 | skip
 first | replace Fk186 := Fk186.mv1 G199 (by omega) | clear Fk186 | skip
 replace HG := HG.n1 G199
 clear G199
 obtain ⟨w202, G203, G204⟩ := V.Fr.two G200
 clear G200
 have z205 := V.Fr.size G203
 first | replace F_b := F_b.mb G203 hD_b | clear F_b | skip
 first | replace Fk2 := Fk2.mv1 G203 (by omega) | clear Fk2 | skip
 first | replace Fk36 := Fk36.mv1 G203 (by omega) | clear Fk36 | skip
 first | replace Fk43 := Fk43.mv1 G203 (by omega) | clear Fk43 | skip
 first | replace F52 := F52.mv1 G203 (by omega) | clear F52 | skip
 first | replace F170 := F170.mv1 G203 (by first | exact ⟨by omega, by assumption⟩ | exact ⟨by omega, fun h => absurd h.1 (by assumption)⟩ | exact ⟨by omega, fun h => absurd h.1.1 (by assumption)⟩ | exact ⟨by omega, fun h => by first | (have h2 := h.1; have h3 := h.2; omega) | (have h2 := h; dsimp only at h2; omega)⟩ | first | omega | exact fun h => h | exact ⟨by omega, fun h => h⟩ | (intro h; first | (have := hD_b _ h; omega)) | (refine ⟨by omega, ?_⟩; intro h; first | (have := hD_b _ h; omega))) | clear F170 | skip
 first | replace F171 := F171.mv1 G203 (by omega) | clear F171 | skip
 first | replace F172 := F172.mv1 G203 (by omega) | clear F172 | skip
 first | replace Fk186 := Fk186.mv1 G203 (by omega) | clear Fk186 | skip
 replace HG := HG.n1 G203
 clear G203
 have z206 := V.Fr.size G204
 first | replace F_b := F_b.mb G204 hD_b | clear F_b | skip
 first | replace Fk2 := Fk2.mv1 G204 (by omega) | clear Fk2 | skip
 first | replace Fk36 := Fk36.mv1 G204 (by omega) | clear Fk36 | skip
 first | replace Fk43 := Fk43.mv1 G204 (by omega) | clear Fk43 | skip
 first | replace F52 := F52.mv1 G204 (by omega) | clear F52 | skip
 first | replace F170 := F170.mv1 G204 (by first | exact ⟨by omega, by assumption⟩ | exact ⟨by omega, fun h => absurd h.1 (by assumption)⟩ | exact ⟨by omega, fun h => absurd h.1.1 (by assumption)⟩ | exact ⟨by omega, fun h => by first | (have h2 := h.1; have h3 := h.2; omega) | (have h2 := h; dsimp only at h2; omega)⟩ | first | omega | exact fun h => h | exact ⟨by omega, fun h => h⟩ | (intro h; first | (have := hD_b _ h; omega)) | (refine ⟨by omega, ?_⟩; intro h; first | (have := hD_b _ h; omega))) | clear F170 | skip
 first | replace F171 := F171.mv1 G204 (by omega) | clear F171 | skip
 first | replace F172 := F172.mv1 G204 (by omega) | clear F172 | skip
 first | replace Fk186 := Fk186.mv1 G204 (by omega) | clear Fk186 | skip
 replace HG := HG.n1 G204
 clear G204
 simp only [V.spliceL, V.cellsL] at F195
 refine V.nil ?_
 refine V.bN ?_
 refine V.tN ?_
 refine V.region ?_
 refine V.addN rfl rfl rfl rfl rfl (by first | omega | (simp only [List.length_take, List.length_drop, List.length_append, List.length_cons, List.length_nil, List.length_replicate, List.length_set, V.length_data, V.S_size]; omega)) (by first | omega | (simp only [List.length_take, List.length_drop, List.length_append, List.length_cons, List.length_nil, List.length_replicate, List.length_set, V.length_data, V.S_size]; omega)) ?_
 refine V.run T_ok 1 rfl ?_
 refine V.nil ?_
 refine V.tN ?_
 refine V.rnd ?_
 refine V.seq ?_
 have z207 : w188.heap.size ≤ w196.heap.size := by omega
 try clear z193
 try clear z194
 try clear z195
 try clear z196
 try clear z197
 try clear z198
 try clear z199
 try clear z200
 try clear z201
 try clear z202
 try clear z203
 try clear z204
 try clear z205
 try clear z206
 generalize hd10 : (rdT d9 65536).2 = d10 at F193
 generalize hb10 : (b9 || decide (¬ (rdT d9 65536).1.2 = 0)) = b10 at F194
 generalize hq10_0 : S (rdT d9 65536).1.1 = q10_0 at F195
 have hz10 := szT hq10_0
 refine V.region ?_
 refine V.run T_ok 1 rfl ?_
 refine V.nil ?_
 refine V.tN ?_
 refine V.seq ?_
 refine V.condY rfl rfl ?_
 refine V.skip ?_
 refine V.tN ?_
 refine V.seq ?_
 refine V.block ?_
 refine V.seq ?_
 refine V.region ?_
 refine V.step rfl rfl (V.elem_run T_ok rfl rfl sz58 rfl rfl (by decide) (by decide) _) ?_
 refine V.loadO T_ok Fk186 rfl rfl rfl rfl rfl ?_
 refine V.run T_ok 1 rfl ?_
 refine V.nil ?_
 refine V.tN ?_
 refine V.region ?_
 refine V.run T_ok 2 rfl ?_
 refine V.call (tk_text (Ft := F194) (FX := F193) (Fx := F195) (off := 11) (hle := rfl) (n1 := by omega) (n2 := by omega) (n3 := by omega) (n4 := (by intro h; have := h.1; have := h.2; omega)) (n5 := (by intro h; have := h.1; have := h.2; omega))) rfl rfl rfl ?_
 rintro _ w211 ⟨rfl, F208, F209, F210, G212⟩
 obtain ⟨w213, G214, G215⟩ := V.Fr.cut G212
 clear G212
 have z216 := V.Fr.size G214
 first | replace F_b := F_b.mb G214 hD_b | clear F_b | skip
 first | replace Fk2 := Fk2.mv1 G214 (by omega) | clear Fk2 | skip
 first | replace Fk36 := Fk36.mv1 G214 (by omega) | clear Fk36 | skip
 first | replace Fk43 := Fk43.mv1 G214 (by omega) | clear Fk43 | skip
 first | replace F52 := F52.mv1 G214 (by omega) | clear F52 | skip
 first | replace Fk186 := Fk186.mv1 G214 (by omega) | clear Fk186 | skip
 first | replace F193 := F193.mv1 G214 (by first | exact ⟨by omega, by assumption⟩ | exact ⟨by omega, fun h => absurd h.1 (by assumption)⟩ | exact ⟨by omega, fun h => absurd h.1.1 (by assumption)⟩ | exact ⟨by omega, fun h => by first | (have h2 := h.1; have h3 := h.2; omega) | (have h2 := h; dsimp only at h2; omega)⟩ | first | omega | exact fun h => h | exact ⟨by omega, fun h => h⟩ | (intro h; first | (have := hD_b _ h; omega)) | (refine ⟨by omega, ?_⟩; intro h; first | (have := hD_b _ h; omega))) | clear F193 | skip
 first | replace F194 := F194.mv1 G214 (by omega) | clear F194 | skip
 first | replace F195 := F195.mv1 G214 (by omega) | clear F195 | skip
 replace HG := HG.n1 G214
 clear G214
 obtain ⟨w217, G218, G219⟩ := V.Fr.two G215
 clear G215
 have z220 := V.Fr.size G218
 first | replace F_b := F_b.mb G218 hD_b | clear F_b | skip
 first | replace Fk2 := Fk2.mv1 G218 (by omega) | clear Fk2 | skip
 first | replace Fk36 := Fk36.mv1 G218 (by omega) | clear Fk36 | skip
 first | replace Fk43 := Fk43.mv1 G218 (by omega) | clear Fk43 | skip
 first | replace F52 := F52.mv1 G218 (by omega) | clear F52 | skip
 first | replace Fk186 := Fk186.mv1 G218 (by omega) | clear Fk186 | skip
 first | replace F193 := F193.mv1 G218 (by first | exact ⟨by omega, by assumption⟩ | exact ⟨by omega, fun h => absurd h.1 (by assumption)⟩ | exact ⟨by omega, fun h => absurd h.1.1 (by assumption)⟩ | exact ⟨by omega, fun h => by first | (have h2 := h.1; have h3 := h.2; omega) | (have h2 := h; dsimp only at h2; omega)⟩ | first | omega | exact fun h => h | exact ⟨by omega, fun h => h⟩ | (intro h; first | (have := hD_b _ h; omega)) | (refine ⟨by omega, ?_⟩; intro h; first | (have := hD_b _ h; omega))) | clear F193 | skip
 first | replace F194 := F194.mv1 G218 (by omega) | clear F194 | skip
 first | replace F195 := F195.mv1 G218 (by omega) | clear F195 | skip
 replace HG := HG.n1 G218
 clear G218
 have z221 := V.Fr.size G219
 first | replace F_b := F_b.mb G219 hD_b | clear F_b | skip
 first | replace Fk2 := Fk2.mv1 G219 (by omega) | clear Fk2 | skip
 first | replace Fk36 := Fk36.mv1 G219 (by omega) | clear Fk36 | skip
 first | replace Fk43 := Fk43.mv1 G219 (by omega) | clear Fk43 | skip
 first | replace F52 := F52.mv1 G219 (by omega) | clear F52 | skip
 first | replace Fk186 := Fk186.mv1 G219 (by omega) | clear Fk186 | skip
 first | replace F193 := F193.mv1 G219 (by first | exact ⟨by omega, by assumption⟩ | exact ⟨by omega, fun h => absurd h.1 (by assumption)⟩ | exact ⟨by omega, fun h => absurd h.1.1 (by assumption)⟩ | exact ⟨by omega, fun h => by first | (have h2 := h.1; have h3 := h.2; omega) | (have h2 := h; dsimp only at h2; omega)⟩ | first | omega | exact fun h => h | exact ⟨by omega, fun h => h⟩ | (intro h; first | (have := hD_b _ h; omega)) | (refine ⟨by omega, ?_⟩; intro h; first | (have := hD_b _ h; omega))) | clear F193 | skip
 first | replace F194 := F194.mv1 G219 (by omega) | clear F194 | skip
 first | replace F195 := F195.mv1 G219 (by omega) | clear F195 | skip
 replace HG := HG.n1 G219
 clear G219
 simp only [V.spliceL, V.cellsL] at F210
 refine V.nil ?_
 refine V.bN ?_
 refine V.tN ?_
 refine V.region ?_
 refine V.addN rfl rfl rfl rfl rfl (by first | omega | (simp only [List.length_take, List.length_drop, List.length_append, List.length_cons, List.length_nil, List.length_replicate, List.length_set, V.length_data, V.S_size]; omega)) (by first | omega | (simp only [List.length_take, List.length_drop, List.length_append, List.length_cons, List.length_nil, List.length_replicate, List.length_set, V.length_data, V.S_size]; omega)) ?_
 refine V.run T_ok 1 rfl ?_
 refine V.nil ?_
 refine V.tN ?_
 refine V.rnd ?_
 refine V.seq ?_
 have z222 : w196.heap.size ≤ w211.heap.size := by omega
 try clear z208
 try clear z209
 try clear z210
 try clear z211
 try clear z212
 try clear z213
 try clear z214
 try clear z215
 try clear z216
 try clear z217
 try clear z218
 try clear z219
 try clear z220
 try clear z221
 generalize hd11 : (rdT d10 65536).2 = d11 at F208
 generalize hb11 : (b10 || decide (¬ (rdT d10 65536).1.2 = 0)) = b11 at F209
 generalize hq11_0 : S (rdT d10 65536).1.1 = q11_0 at F210
 have hz11 := szT hq11_0
 refine V.region ?_
 refine V.run T_ok 1 rfl ?_
 refine V.nil ?_
 refine V.tN ?_
 refine V.seq ?_
 refine V.condY rfl rfl ?_
 refine V.skip ?_
 refine V.tN ?_
 refine V.seq ?_
 refine V.block ?_
 refine V.seq ?_
 refine V.region ?_
 refine V.step rfl rfl (V.elem_run T_ok rfl rfl sz58 rfl rfl (by decide) (by decide) _) ?_
 refine V.loadO T_ok Fk186 rfl rfl rfl rfl rfl ?_
 refine V.run T_ok 1 rfl ?_
 refine V.nil ?_
 refine V.tN ?_
 refine V.region ?_
 refine V.run T_ok 2 rfl ?_
 refine V.call (tk_text (Ft := F209) (FX := F208) (Fx := F210) (off := 12) (hle := rfl) (n1 := by omega) (n2 := by omega) (n3 := by omega) (n4 := (by intro h; have := h.1; have := h.2; omega)) (n5 := (by intro h; have := h.1; have := h.2; omega))) rfl rfl rfl ?_
 rintro _ w226 ⟨rfl, F223, F224, F225, G227⟩
 obtain ⟨w228, G229, G230⟩ := V.Fr.cut G227
 clear G227
 have z231 := V.Fr.size G229
 first | replace F_b := F_b.mb G229 hD_b | clear F_b | skip
 first | replace Fk2 := Fk2.mv1 G229 (by omega) | clear Fk2 | skip
 first | replace Fk36 := Fk36.mv1 G229 (by omega) | clear Fk36 | skip
 first | replace Fk43 := Fk43.mv1 G229 (by omega) | clear Fk43 | skip
 first | replace F52 := F52.mv1 G229 (by omega) | clear F52 | skip
 first | replace Fk186 := Fk186.mv1 G229 (by omega) | clear Fk186 | skip
 first | replace F208 := F208.mv1 G229 (by first | exact ⟨by omega, by assumption⟩ | exact ⟨by omega, fun h => absurd h.1 (by assumption)⟩ | exact ⟨by omega, fun h => absurd h.1.1 (by assumption)⟩ | exact ⟨by omega, fun h => by first | (have h2 := h.1; have h3 := h.2; omega) | (have h2 := h; dsimp only at h2; omega)⟩ | first | omega | exact fun h => h | exact ⟨by omega, fun h => h⟩ | (intro h; first | (have := hD_b _ h; omega)) | (refine ⟨by omega, ?_⟩; intro h; first | (have := hD_b _ h; omega))) | clear F208 | skip
 first | replace F209 := F209.mv1 G229 (by omega) | clear F209 | skip
 first | replace F210 := F210.mv1 G229 (by omega) | clear F210 | skip
 replace HG := HG.n1 G229
 clear G229
 obtain ⟨w232, G233, G234⟩ := V.Fr.two G230
 clear G230
 have z235 := V.Fr.size G233
 first | replace F_b := F_b.mb G233 hD_b | clear F_b | skip
 first | replace Fk2 := Fk2.mv1 G233 (by omega) | clear Fk2 | skip
 first | replace Fk36 := Fk36.mv1 G233 (by omega) | clear Fk36 | skip
 first | replace Fk43 := Fk43.mv1 G233 (by omega) | clear Fk43 | skip
 first | replace F52 := F52.mv1 G233 (by omega) | clear F52 | skip
 first | replace Fk186 := Fk186.mv1 G233 (by omega) | clear Fk186 | skip
 first | replace F208 := F208.mv1 G233 (by first | exact ⟨by omega, by assumption⟩ | exact ⟨by omega, fun h => absurd h.1 (by assumption)⟩ | exact ⟨by omega, fun h => absurd h.1.1 (by assumption)⟩ | exact ⟨by omega, fun h => by first | (have h2 := h.1; have h3 := h.2; omega) | (have h2 := h; dsimp only at h2; omega)⟩ | first | omega | exact fun h => h | exact ⟨by omega, fun h => h⟩ | (intro h; first | (have := hD_b _ h; omega)) | (refine ⟨by omega, ?_⟩; intro h; first | (have := hD_b _ h; omega))) | clear F208 | skip
 first | replace F209 := F209.mv1 G233 (by omega) | clear F209 | skip
 first | replace F210 := F210.mv1 G233 (by omega) | clear F210 | skip
 replace HG := HG.n1 G233
 clear G233
 have z236 := V.Fr.size G234
 first | replace F_b := F_b.mb G234 hD_b | clear F_b | skip
 first | replace Fk2 := Fk2.mv1 G234 (by omega) | clear Fk2 | skip
 first | replace Fk36 := Fk36.mv1 G234 (by omega) | clear Fk36 | skip
 first | replace Fk43 := Fk43.mv1 G234 (by omega) | clear Fk43 | skip
 first | replace F52 := F52.mv1 G234 (by omega) | clear F52 | skip
 first | replace Fk186 := Fk186.mv1 G234 (by omega) | clear Fk186 | skip
 first | replace F208 := F208.mv1 G234 (by first | exact ⟨by omega, by assumption⟩ | exact ⟨by omega, fun h => absurd h.1 (by assumption)⟩ | exact ⟨by omega, fun h => absurd h.1.1 (by assumption)⟩ | exact ⟨by omega, fun h => by first | (have h2 := h.1; have h3 := h.2; omega) | (have h2 := h; dsimp only at h2; omega)⟩ | first | omega | exact fun h => h | exact ⟨by omega, fun h => h⟩ | (intro h; first | (have := hD_b _ h; omega)) | (refine ⟨by omega, ?_⟩; intro h; first | (have := hD_b _ h; omega))) | clear F208 | skip
 first | replace F209 := F209.mv1 G234 (by omega) | clear F209 | skip
 first | replace F210 := F210.mv1 G234 (by omega) | clear F210 | skip
 replace HG := HG.n1 G234
 clear G234
 simp only [V.spliceL, V.cellsL] at F225
 refine V.nil ?_
 refine V.bN ?_
 refine V.tN ?_
 refine V.region ?_
 refine V.addN rfl rfl rfl rfl rfl (by first | omega | (simp only [List.length_take, List.length_drop, List.length_append, List.length_cons, List.length_nil, List.length_replicate, List.length_set, V.length_data, V.S_size]; omega)) (by first | omega | (simp only [List.length_take, List.length_drop, List.length_append, List.length_cons, List.length_nil, List.length_replicate, List.length_set, V.length_data, V.S_size]; omega)) ?_
 refine V.run T_ok 1 rfl ?_
 refine V.nil ?_
 refine V.tN ?_
 refine V.rnd ?_
 refine V.seq ?_
 have z237 : w211.heap.size ≤ w226.heap.size := by omega
 try clear z223
 try clear z224
 try clear z225
 try clear z226
 try clear z227
 try clear z228
 try clear z229
 try clear z230
 try clear z231
 try clear z232
 try clear z233
 try clear z234
 try clear z235
 try clear z236
 generalize hd12 : (rdT d11 65536).2 = d12 at F223
 generalize hb12 : (b11 || decide (¬ (rdT d11 65536).1.2 = 0)) = b12 at F224
 generalize hq12_0 : S (rdT d11 65536).1.1 = q12_0 at F225
 have hz12 := szT hq12_0
 refine V.region ?_
 refine V.run T_ok 1 rfl ?_
 refine V.nil ?_
 refine V.tN ?_
 refine V.seq ?_
 refine V.condN rfl rfl ?_
 refine V.exit ?_
 refine V.tX ?_
 refine V.tX ?_
 refine V.bE ?_
 refine V.tN ?_
 refine V.seq ?_
 refine V.region ?_
 refine V.run T_ok 2 rfl ?_
 refine V.call (tk_flag (Ft := F224) (FX := F223) (Fx := F225) (off := 13) (hle := rfl) (n1 := by omega) (n2 := by omega) (n3 := by omega) (n4 := (by intro h; have := h.1; have := h.2; omega)) (n5 := (by intro h; have := h.1; have := h.2; omega))) rfl rfl rfl ?_
 rintro _ w241 ⟨rfl, F238, F239, F240, G242⟩
 obtain ⟨w243, G244, G245⟩ := V.Fr.cut G242
 clear G242
 have z246 := V.Fr.size G244
 first | replace F_b := F_b.mb G244 hD_b | clear F_b | skip
 first | replace Fk2 := Fk2.mv1 G244 (by omega) | clear Fk2 | skip
 first | replace Fk36 := Fk36.mv1 G244 (by omega) | clear Fk36 | skip
 first | replace Fk43 := Fk43.mv1 G244 (by omega) | clear Fk43 | skip
 first | replace F52 := F52.mv1 G244 (by omega) | clear F52 | skip
 first | replace Fk186 := Fk186.mv1 G244 (by omega) | clear Fk186 | skip
 first | replace F223 := F223.mv1 G244 (by first | exact ⟨by omega, by assumption⟩ | exact ⟨by omega, fun h => absurd h.1 (by assumption)⟩ | exact ⟨by omega, fun h => absurd h.1.1 (by assumption)⟩ | exact ⟨by omega, fun h => by first | (have h2 := h.1; have h3 := h.2; omega) | (have h2 := h; dsimp only at h2; omega)⟩ | first | omega | exact fun h => h | exact ⟨by omega, fun h => h⟩ | (intro h; first | (have := hD_b _ h; omega)) | (refine ⟨by omega, ?_⟩; intro h; first | (have := hD_b _ h; omega))) | clear F223 | skip
 first | replace F224 := F224.mv1 G244 (by omega) | clear F224 | skip
 first | replace F225 := F225.mv1 G244 (by omega) | clear F225 | skip
 replace HG := HG.n1 G244
 clear G244
 obtain ⟨w247, G248, G249⟩ := V.Fr.two G245
 clear G245
 have z250 := V.Fr.size G248
 first | replace F_b := F_b.mb G248 hD_b | clear F_b | skip
 first | replace Fk2 := Fk2.mv1 G248 (by omega) | clear Fk2 | skip
 first | replace Fk36 := Fk36.mv1 G248 (by omega) | clear Fk36 | skip
 first | replace Fk43 := Fk43.mv1 G248 (by omega) | clear Fk43 | skip
 first | replace F52 := F52.mv1 G248 (by omega) | clear F52 | skip
 first | replace Fk186 := Fk186.mv1 G248 (by omega) | clear Fk186 | skip
 first | replace F223 := F223.mv1 G248 (by first | exact ⟨by omega, by assumption⟩ | exact ⟨by omega, fun h => absurd h.1 (by assumption)⟩ | exact ⟨by omega, fun h => absurd h.1.1 (by assumption)⟩ | exact ⟨by omega, fun h => by first | (have h2 := h.1; have h3 := h.2; omega) | (have h2 := h; dsimp only at h2; omega)⟩ | first | omega | exact fun h => h | exact ⟨by omega, fun h => h⟩ | (intro h; first | (have := hD_b _ h; omega)) | (refine ⟨by omega, ?_⟩; intro h; first | (have := hD_b _ h; omega))) | clear F223 | skip
 first | replace F224 := F224.mv1 G248 (by omega) | clear F224 | skip
 first | replace F225 := F225.mv1 G248 (by omega) | clear F225 | skip
 replace HG := HG.n1 G248
 clear G248
 have z251 := V.Fr.size G249
 first | replace F_b := F_b.mb G249 hD_b | clear F_b | skip
 first | replace Fk2 := Fk2.mv1 G249 (by omega) | clear Fk2 | skip
 first | replace Fk36 := Fk36.mv1 G249 (by omega) | clear Fk36 | skip
 first | replace Fk43 := Fk43.mv1 G249 (by omega) | clear Fk43 | skip
 first | replace F52 := F52.mv1 G249 (by omega) | clear F52 | skip
 first | replace Fk186 := Fk186.mv1 G249 (by omega) | clear Fk186 | skip
 first | replace F223 := F223.mv1 G249 (by first | exact ⟨by omega, by assumption⟩ | exact ⟨by omega, fun h => absurd h.1 (by assumption)⟩ | exact ⟨by omega, fun h => absurd h.1.1 (by assumption)⟩ | exact ⟨by omega, fun h => by first | (have h2 := h.1; have h3 := h.2; omega) | (have h2 := h; dsimp only at h2; omega)⟩ | first | omega | exact fun h => h | exact ⟨by omega, fun h => h⟩ | (intro h; first | (have := hD_b _ h; omega)) | (refine ⟨by omega, ?_⟩; intro h; first | (have := hD_b _ h; omega))) | clear F223 | skip
 first | replace F224 := F224.mv1 G249 (by omega) | clear F224 | skip
 first | replace F225 := F225.mv1 G249 (by omega) | clear F225 | skip
 replace HG := HG.n1 G249
 clear G249
 simp only [V.spliceL, V.cellsL] at F240
 refine V.nil ?_
 refine V.tN ?_
 refine V.seq ?_
 have z252 : w226.heap.size ≤ w241.heap.size := by omega
 try clear z238
 try clear z239
 try clear z240
 try clear z241
 try clear z242
 try clear z243
 try clear z244
 try clear z245
 try clear z246
 try clear z247
 try clear z248
 try clear z249
 try clear z250
 try clear z251
 generalize hd13 : (rdF d12).2 = d13 at F238
 generalize hb13 : (b12 || decide (¬ (rdF d12).1.2 = 0)) = b13 at F239
 generalize hq13_0 : (rdF d12).1.1 = q13_0 at F240
 refine V.region ?_
 refine V.run T_ok 2 rfl ?_
 refine V.call (tk_stamp (Ft := F239) (FX := F238) (Fx := F240) (off := 14) (hle := rfl) (n1 := by omega) (n2 := by omega) (n3 := by omega) (n4 := (by intro h; have := h.1; have := h.2; omega)) (n5 := (by intro h; have := h.1; have := h.2; omega))) rfl rfl rfl ?_
 rintro _ w256 ⟨rfl, F253, F254, F255, G257⟩
 obtain ⟨w258, G259, G260⟩ := V.Fr.cut G257
 clear G257
 have z261 := V.Fr.size G259
 first | replace F_b := F_b.mb G259 hD_b | clear F_b | skip
 first | replace Fk2 := Fk2.mv1 G259 (by omega) | clear Fk2 | skip
 first | replace Fk36 := Fk36.mv1 G259 (by omega) | clear Fk36 | skip
 first | replace Fk43 := Fk43.mv1 G259 (by omega) | clear Fk43 | skip
 first | replace F52 := F52.mv1 G259 (by omega) | clear F52 | skip
 first | replace Fk186 := Fk186.mv1 G259 (by omega) | clear Fk186 | skip
 first | replace F238 := F238.mv1 G259 (by first | exact ⟨by omega, by assumption⟩ | exact ⟨by omega, fun h => absurd h.1 (by assumption)⟩ | exact ⟨by omega, fun h => absurd h.1.1 (by assumption)⟩ | exact ⟨by omega, fun h => by first | (have h2 := h.1; have h3 := h.2; omega) | (have h2 := h; dsimp only at h2; omega)⟩ | first | omega | exact fun h => h | exact ⟨by omega, fun h => h⟩ | (intro h; first | (have := hD_b _ h; omega)) | (refine ⟨by omega, ?_⟩; intro h; first | (have := hD_b _ h; omega))) | clear F238 | skip
 first | replace F239 := F239.mv1 G259 (by omega) | clear F239 | skip
 first | replace F240 := F240.mv1 G259 (by omega) | clear F240 | skip
 replace HG := HG.n1 G259
 clear G259
 obtain ⟨w262, G263, G264⟩ := V.Fr.two G260
 clear G260
 have z265 := V.Fr.size G263
 first | replace F_b := F_b.mb G263 hD_b | clear F_b | skip
 first | replace Fk2 := Fk2.mv1 G263 (by omega) | clear Fk2 | skip
 first | replace Fk36 := Fk36.mv1 G263 (by omega) | clear Fk36 | skip
 first | replace Fk43 := Fk43.mv1 G263 (by omega) | clear Fk43 | skip
 first | replace F52 := F52.mv1 G263 (by omega) | clear F52 | skip
 first | replace Fk186 := Fk186.mv1 G263 (by omega) | clear Fk186 | skip
 first | replace F238 := F238.mv1 G263 (by first | exact ⟨by omega, by assumption⟩ | exact ⟨by omega, fun h => absurd h.1 (by assumption)⟩ | exact ⟨by omega, fun h => absurd h.1.1 (by assumption)⟩ | exact ⟨by omega, fun h => by first | (have h2 := h.1; have h3 := h.2; omega) | (have h2 := h; dsimp only at h2; omega)⟩ | first | omega | exact fun h => h | exact ⟨by omega, fun h => h⟩ | (intro h; first | (have := hD_b _ h; omega)) | (refine ⟨by omega, ?_⟩; intro h; first | (have := hD_b _ h; omega))) | clear F238 | skip
 first | replace F239 := F239.mv1 G263 (by omega) | clear F239 | skip
 first | replace F240 := F240.mv1 G263 (by omega) | clear F240 | skip
 replace HG := HG.n1 G263
 clear G263
 have z266 := V.Fr.size G264
 first | replace F_b := F_b.mb G264 hD_b | clear F_b | skip
 first | replace Fk2 := Fk2.mv1 G264 (by omega) | clear Fk2 | skip
 first | replace Fk36 := Fk36.mv1 G264 (by omega) | clear Fk36 | skip
 first | replace Fk43 := Fk43.mv1 G264 (by omega) | clear Fk43 | skip
 first | replace F52 := F52.mv1 G264 (by omega) | clear F52 | skip
 first | replace Fk186 := Fk186.mv1 G264 (by omega) | clear Fk186 | skip
 first | replace F238 := F238.mv1 G264 (by first | exact ⟨by omega, by assumption⟩ | exact ⟨by omega, fun h => absurd h.1 (by assumption)⟩ | exact ⟨by omega, fun h => absurd h.1.1 (by assumption)⟩ | exact ⟨by omega, fun h => by first | (have h2 := h.1; have h3 := h.2; omega) | (have h2 := h; dsimp only at h2; omega)⟩ | first | omega | exact fun h => h | exact ⟨by omega, fun h => h⟩ | (intro h; first | (have := hD_b _ h; omega)) | (refine ⟨by omega, ?_⟩; intro h; first | (have := hD_b _ h; omega))) | clear F238 | skip
 first | replace F239 := F239.mv1 G264 (by omega) | clear F239 | skip
 first | replace F240 := F240.mv1 G264 (by omega) | clear F240 | skip
 replace HG := HG.n1 G264
 clear G264
 simp only [V.spliceL, V.cellsL] at F255
 refine V.nil ?_
 refine V.tN ?_
 refine V.seq ?_
 have z267 : w241.heap.size ≤ w256.heap.size := by omega
 try clear z253
 try clear z254
 try clear z255
 try clear z256
 try clear z257
 try clear z258
 try clear z259
 try clear z260
 try clear z261
 try clear z262
 try clear z263
 try clear z264
 try clear z265
 try clear z266
 generalize hd14 : (rdS d13).2 = d14 at F253
 generalize hb14 : (b13 || decide (¬ (rdS d13).1.2 = 0)) = b14 at F254
 generalize hq14_0 : (rdS d13).1.1.1 = q14_0 at F255
 generalize hq14_1 : (rdS d13).1.1.2 = q14_1 at F255
 refine V.region ?_
 refine V.run T_ok 2 rfl ?_
 refine V.call (tk_stamp (Ft := F254) (FX := F253) (Fx := F255) (off := 16) (hle := rfl) (n1 := by omega) (n2 := by omega) (n3 := by omega) (n4 := (by intro h; have := h.1; have := h.2; omega)) (n5 := (by intro h; have := h.1; have := h.2; omega))) rfl rfl rfl ?_
 rintro _ w271 ⟨rfl, F268, F269, F270, G272⟩
 obtain ⟨w273, G274, G275⟩ := V.Fr.cut G272
 clear G272
 have z276 := V.Fr.size G274
 first | replace F_b := F_b.mb G274 hD_b | clear F_b | skip
 first | replace Fk2 := Fk2.mv1 G274 (by omega) | clear Fk2 | skip
 first | replace Fk36 := Fk36.mv1 G274 (by omega) | clear Fk36 | skip
 first | replace Fk43 := Fk43.mv1 G274 (by omega) | clear Fk43 | skip
 first | replace F52 := F52.mv1 G274 (by omega) | clear F52 | skip
 first | replace Fk186 := Fk186.mv1 G274 (by omega) | clear Fk186 | skip
 first | replace F253 := F253.mv1 G274 (by first | exact ⟨by omega, by assumption⟩ | exact ⟨by omega, fun h => absurd h.1 (by assumption)⟩ | exact ⟨by omega, fun h => absurd h.1.1 (by assumption)⟩ | exact ⟨by omega, fun h => by first | (have h2 := h.1; have h3 := h.2; omega) | (have h2 := h; dsimp only at h2; omega)⟩ | first | omega | exact fun h => h | exact ⟨by omega, fun h => h⟩ | (intro h; first | (have := hD_b _ h; omega)) | (refine ⟨by omega, ?_⟩; intro h; first | (have := hD_b _ h; omega))) | clear F253 | skip
 first | replace F254 := F254.mv1 G274 (by omega) | clear F254 | skip
 first | replace F255 := F255.mv1 G274 (by omega) | clear F255 | skip
 replace HG := HG.n1 G274
 clear G274
 obtain ⟨w277, G278, G279⟩ := V.Fr.two G275
 clear G275
 have z280 := V.Fr.size G278
 first | replace F_b := F_b.mb G278 hD_b | clear F_b | skip
 first | replace Fk2 := Fk2.mv1 G278 (by omega) | clear Fk2 | skip
 first | replace Fk36 := Fk36.mv1 G278 (by omega) | clear Fk36 | skip
 first | replace Fk43 := Fk43.mv1 G278 (by omega) | clear Fk43 | skip
 first | replace F52 := F52.mv1 G278 (by omega) | clear F52 | skip
 first | replace Fk186 := Fk186.mv1 G278 (by omega) | clear Fk186 | skip
 first | replace F253 := F253.mv1 G278 (by first | exact ⟨by omega, by assumption⟩ | exact ⟨by omega, fun h => absurd h.1 (by assumption)⟩ | exact ⟨by omega, fun h => absurd h.1.1 (by assumption)⟩ | exact ⟨by omega, fun h => by first | (have h2 := h.1; have h3 := h.2; omega) | (have h2 := h; dsimp only at h2; omega)⟩ | first | omega | exact fun h => h | exact ⟨by omega, fun h => h⟩ | (intro h; first | (have := hD_b _ h; omega)) | (refine ⟨by omega, ?_⟩; intro h; first | (have := hD_b _ h; omega))) | clear F253 | skip
 first | replace F254 := F254.mv1 G278 (by omega) | clear F254 | skip
 first | replace F255 := F255.mv1 G278 (by omega) | clear F255 | skip
 replace HG := HG.n1 G278
 clear G278
 have z281 := V.Fr.size G279
 first | replace F_b := F_b.mb G279 hD_b | clear F_b | skip
 first | replace Fk2 := Fk2.mv1 G279 (by omega) | clear Fk2 | skip
 first | replace Fk36 := Fk36.mv1 G279 (by omega) | clear Fk36 | skip
 first | replace Fk43 := Fk43.mv1 G279 (by omega) | clear Fk43 | skip
 first | replace F52 := F52.mv1 G279 (by omega) | clear F52 | skip
 first | replace Fk186 := Fk186.mv1 G279 (by omega) | clear Fk186 | skip
 first | replace F253 := F253.mv1 G279 (by first | exact ⟨by omega, by assumption⟩ | exact ⟨by omega, fun h => absurd h.1 (by assumption)⟩ | exact ⟨by omega, fun h => absurd h.1.1 (by assumption)⟩ | exact ⟨by omega, fun h => by first | (have h2 := h.1; have h3 := h.2; omega) | (have h2 := h; dsimp only at h2; omega)⟩ | first | omega | exact fun h => h | exact ⟨by omega, fun h => h⟩ | (intro h; first | (have := hD_b _ h; omega)) | (refine ⟨by omega, ?_⟩; intro h; first | (have := hD_b _ h; omega))) | clear F253 | skip
 first | replace F254 := F254.mv1 G279 (by omega) | clear F254 | skip
 first | replace F255 := F255.mv1 G279 (by omega) | clear F255 | skip
 replace HG := HG.n1 G279
 clear G279
 simp only [V.spliceL, V.cellsL] at F270
 refine V.nil ?_
 refine V.tN ?_
 refine V.seq ?_
 have z282 : w256.heap.size ≤ w271.heap.size := by omega
 try clear z268
 try clear z269
 try clear z270
 try clear z271
 try clear z272
 try clear z273
 try clear z274
 try clear z275
 try clear z276
 try clear z277
 try clear z278
 try clear z279
 try clear z280
 try clear z281
 generalize hd15 : (rdS d14).2 = d15 at F268
 generalize hb15 : (b14 || decide (¬ (rdS d14).1.2 = 0)) = b15 at F269
 generalize hq15_0 : (rdS d14).1.1.1 = q15_0 at F270
 generalize hq15_1 : (rdS d14).1.1.2 = q15_1 at F270
 refine V.region ?_
 refine V.run T_ok 2 rfl ?_
 refine V.call (tk_flag (Ft := F269) (FX := F268) (Fx := F270) (off := 18) (hle := rfl) (n1 := by omega) (n2 := by omega) (n3 := by omega) (n4 := (by intro h; have := h.1; have := h.2; omega)) (n5 := (by intro h; have := h.1; have := h.2; omega))) rfl rfl rfl ?_
 rintro _ w286 ⟨rfl, F283, F284, F285, G287⟩
 obtain ⟨w288, G289, G290⟩ := V.Fr.cut G287
 clear G287
 have z291 := V.Fr.size G289
 first | replace F_b := F_b.mb G289 hD_b | clear F_b | skip
 first | replace Fk2 := Fk2.mv1 G289 (by omega) | clear Fk2 | skip
 first | replace Fk36 := Fk36.mv1 G289 (by omega) | clear Fk36 | skip
 first | replace Fk43 := Fk43.mv1 G289 (by omega) | clear Fk43 | skip
 first | replace F52 := F52.mv1 G289 (by omega) | clear F52 | skip
 first | replace Fk186 := Fk186.mv1 G289 (by omega) | clear Fk186 | skip
 first | replace F268 := F268.mv1 G289 (by first | exact ⟨by omega, by assumption⟩ | exact ⟨by omega, fun h => absurd h.1 (by assumption)⟩ | exact ⟨by omega, fun h => absurd h.1.1 (by assumption)⟩ | exact ⟨by omega, fun h => by first | (have h2 := h.1; have h3 := h.2; omega) | (have h2 := h; dsimp only at h2; omega)⟩ | first | omega | exact fun h => h | exact ⟨by omega, fun h => h⟩ | (intro h; first | (have := hD_b _ h; omega)) | (refine ⟨by omega, ?_⟩; intro h; first | (have := hD_b _ h; omega))) | clear F268 | skip
 first | replace F269 := F269.mv1 G289 (by omega) | clear F269 | skip
 first | replace F270 := F270.mv1 G289 (by omega) | clear F270 | skip
 replace HG := HG.n1 G289
 clear G289
 obtain ⟨w292, G293, G294⟩ := V.Fr.two G290
 clear G290
 have z295 := V.Fr.size G293
 first | replace F_b := F_b.mb G293 hD_b | clear F_b | skip
 first | replace Fk2 := Fk2.mv1 G293 (by omega) | clear Fk2 | skip
 first | replace Fk36 := Fk36.mv1 G293 (by omega) | clear Fk36 | skip
 first | replace Fk43 := Fk43.mv1 G293 (by omega) | clear Fk43 | skip
 first | replace F52 := F52.mv1 G293 (by omega) | clear F52 | skip
 first | replace Fk186 := Fk186.mv1 G293 (by omega) | clear Fk186 | skip
 first | replace F268 := F268.mv1 G293 (by first | exact ⟨by omega, by assumption⟩ | exact ⟨by omega, fun h => absurd h.1 (by assumption)⟩ | exact ⟨by omega, fun h => absurd h.1.1 (by assumption)⟩ | exact ⟨by omega, fun h => by first | (have h2 := h.1; have h3 := h.2; omega) | (have h2 := h; dsimp only at h2; omega)⟩ | first | omega | exact fun h => h | exact ⟨by omega, fun h => h⟩ | (intro h; first | (have := hD_b _ h; omega)) | (refine ⟨by omega, ?_⟩; intro h; first | (have := hD_b _ h; omega))) | clear F268 | skip
 first | replace F269 := F269.mv1 G293 (by omega) | clear F269 | skip
 first | replace F270 := F270.mv1 G293 (by omega) | clear F270 | skip
 replace HG := HG.n1 G293
 clear G293
 have z296 := V.Fr.size G294
 first | replace F_b := F_b.mb G294 hD_b | clear F_b | skip
 first | replace Fk2 := Fk2.mv1 G294 (by omega) | clear Fk2 | skip
 first | replace Fk36 := Fk36.mv1 G294 (by omega) | clear Fk36 | skip
 first | replace Fk43 := Fk43.mv1 G294 (by omega) | clear Fk43 | skip
 first | replace F52 := F52.mv1 G294 (by omega) | clear F52 | skip
 first | replace Fk186 := Fk186.mv1 G294 (by omega) | clear Fk186 | skip
 first | replace F268 := F268.mv1 G294 (by first | exact ⟨by omega, by assumption⟩ | exact ⟨by omega, fun h => absurd h.1 (by assumption)⟩ | exact ⟨by omega, fun h => absurd h.1.1 (by assumption)⟩ | exact ⟨by omega, fun h => by first | (have h2 := h.1; have h3 := h.2; omega) | (have h2 := h; dsimp only at h2; omega)⟩ | first | omega | exact fun h => h | exact ⟨by omega, fun h => h⟩ | (intro h; first | (have := hD_b _ h; omega)) | (refine ⟨by omega, ?_⟩; intro h; first | (have := hD_b _ h; omega))) | clear F268 | skip
 first | replace F269 := F269.mv1 G294 (by omega) | clear F269 | skip
 first | replace F270 := F270.mv1 G294 (by omega) | clear F270 | skip
 replace HG := HG.n1 G294
 clear G294
 simp only [V.spliceL, V.cellsL] at F285
 refine V.nil ?_
 refine V.tN ?_
 refine V.seq ?_
 have z297 : w271.heap.size ≤ w286.heap.size := by omega
 try clear z283
 try clear z284
 try clear z285
 try clear z286
 try clear z287
 try clear z288
 try clear z289
 try clear z290
 try clear z291
 try clear z292
 try clear z293
 try clear z294
 try clear z295
 try clear z296
 generalize hd16 : (rdF d15).2 = d16 at F283
 generalize hb16 : (b15 || decide (¬ (rdF d15).1.2 = 0)) = b16 at F284
 generalize hq16_0 : (rdF d15).1.1 = q16_0 at F285
 refine V.region ?_
 refine V.run T_ok 2 rfl ?_
 refine V.call (tk_flag (Ft := F284) (FX := F283) (Fx := F285) (off := 19) (hle := rfl) (n1 := by omega) (n2 := by omega) (n3 := by omega) (n4 := (by intro h; have := h.1; have := h.2; omega)) (n5 := (by intro h; have := h.1; have := h.2; omega))) rfl rfl rfl ?_
 rintro _ w301 ⟨rfl, F298, F299, F300, G302⟩
 obtain ⟨w303, G304, G305⟩ := V.Fr.cut G302
 clear G302
 have z306 := V.Fr.size G304
 first | replace F_b := F_b.mb G304 hD_b | clear F_b | skip
 first | replace Fk2 := Fk2.mv1 G304 (by omega) | clear Fk2 | skip
 first | replace Fk36 := Fk36.mv1 G304 (by omega) | clear Fk36 | skip
 first | replace Fk43 := Fk43.mv1 G304 (by omega) | clear Fk43 | skip
 first | replace F52 := F52.mv1 G304 (by omega) | clear F52 | skip
 first | replace Fk186 := Fk186.mv1 G304 (by omega) | clear Fk186 | skip
 first | replace F283 := F283.mv1 G304 (by first | exact ⟨by omega, by assumption⟩ | exact ⟨by omega, fun h => absurd h.1 (by assumption)⟩ | exact ⟨by omega, fun h => absurd h.1.1 (by assumption)⟩ | exact ⟨by omega, fun h => by first | (have h2 := h.1; have h3 := h.2; omega) | (have h2 := h; dsimp only at h2; omega)⟩ | first | omega | exact fun h => h | exact ⟨by omega, fun h => h⟩ | (intro h; first | (have := hD_b _ h; omega)) | (refine ⟨by omega, ?_⟩; intro h; first | (have := hD_b _ h; omega))) | clear F283 | skip
 first | replace F284 := F284.mv1 G304 (by omega) | clear F284 | skip
 first | replace F285 := F285.mv1 G304 (by omega) | clear F285 | skip
 replace HG := HG.n1 G304
 clear G304
 obtain ⟨w307, G308, G309⟩ := V.Fr.two G305
 clear G305
 have z310 := V.Fr.size G308
 first | replace F_b := F_b.mb G308 hD_b | clear F_b | skip
 first | replace Fk2 := Fk2.mv1 G308 (by omega) | clear Fk2 | skip
 first | replace Fk36 := Fk36.mv1 G308 (by omega) | clear Fk36 | skip
 first | replace Fk43 := Fk43.mv1 G308 (by omega) | clear Fk43 | skip
 first | replace F52 := F52.mv1 G308 (by omega) | clear F52 | skip
 first | replace Fk186 := Fk186.mv1 G308 (by omega) | clear Fk186 | skip
 first | replace F283 := F283.mv1 G308 (by first | exact ⟨by omega, by assumption⟩ | exact ⟨by omega, fun h => absurd h.1 (by assumption)⟩ | exact ⟨by omega, fun h => absurd h.1.1 (by assumption)⟩ | exact ⟨by omega, fun h => by first | (have h2 := h.1; have h3 := h.2; omega) | (have h2 := h; dsimp only at h2; omega)⟩ | first | omega | exact fun h => h | exact ⟨by omega, fun h => h⟩ | (intro h; first | (have := hD_b _ h; omega)) | (refine ⟨by omega, ?_⟩; intro h; first | (have := hD_b _ h; omega))) | clear F283 | skip
 first | replace F284 := F284.mv1 G308 (by omega) | clear F284 | skip
 first | replace F285 := F285.mv1 G308 (by omega) | clear F285 | skip
 replace HG := HG.n1 G308
 clear G308
 have z311 := V.Fr.size G309
 first | replace F_b := F_b.mb G309 hD_b | clear F_b | skip
 first | replace Fk2 := Fk2.mv1 G309 (by omega) | clear Fk2 | skip
 first | replace Fk36 := Fk36.mv1 G309 (by omega) | clear Fk36 | skip
 first | replace Fk43 := Fk43.mv1 G309 (by omega) | clear Fk43 | skip
 first | replace F52 := F52.mv1 G309 (by omega) | clear F52 | skip
 first | replace Fk186 := Fk186.mv1 G309 (by omega) | clear Fk186 | skip
 first | replace F283 := F283.mv1 G309 (by first | exact ⟨by omega, by assumption⟩ | exact ⟨by omega, fun h => absurd h.1 (by assumption)⟩ | exact ⟨by omega, fun h => absurd h.1.1 (by assumption)⟩ | exact ⟨by omega, fun h => by first | (have h2 := h.1; have h3 := h.2; omega) | (have h2 := h; dsimp only at h2; omega)⟩ | first | omega | exact fun h => h | exact ⟨by omega, fun h => h⟩ | (intro h; first | (have := hD_b _ h; omega)) | (refine ⟨by omega, ?_⟩; intro h; first | (have := hD_b _ h; omega))) | clear F283 | skip
 first | replace F284 := F284.mv1 G309 (by omega) | clear F284 | skip
 first | replace F285 := F285.mv1 G309 (by omega) | clear F285 | skip
 replace HG := HG.n1 G309
 clear G309
 simp only [V.spliceL, V.cellsL] at F300
 refine V.nil ?_
 refine V.tN ?_
 refine V.seq ?_
 refine V.seq ?_
 have z312 : w286.heap.size ≤ w301.heap.size := by omega
 try clear z298
 try clear z299
 try clear z300
 try clear z301
 try clear z302
 try clear z303
 try clear z304
 try clear z305
 try clear z306
 try clear z307
 try clear z308
 try clear z309
 try clear z310
 try clear z311
 generalize hd17 : (rdF d16).2 = d17 at F298
 generalize hb17 : (b16 || decide (¬ (rdF d16).1.2 = 0)) = b17 at F299
 generalize hq17_0 : (rdF d16).1.1 = q17_0 at F300
 refine V.region ?_
 refine V.run T_ok 1 rfl ?_
 refine V.call (tk_number (Ft := F299) (FX := F298) (Fx := Fk36) (off := 0) (hle := rfl) (n1 := by omega) (n2 := by omega) (n3 := by omega) (n4 := (by intro h; have := h.1; have := h.2; omega)) (n5 := (by intro h; have := h.1; have := h.2; omega))) rfl rfl rfl ?_
 rintro _ w316 ⟨rfl, F313, F314, F315, G317⟩
 obtain ⟨w318, G319, G320⟩ := V.Fr.cut G317
 clear G317
 have z321 := V.Fr.size G319
 first | replace F_b := F_b.mb G319 hD_b | clear F_b | skip
 first | replace Fk2 := Fk2.mv1 G319 (by omega) | clear Fk2 | skip
 first | replace Fk36 := Fk36.mv1 G319 (by omega) | clear Fk36 | skip
 first | replace Fk43 := Fk43.mv1 G319 (by omega) | clear Fk43 | skip
 first | replace F52 := F52.mv1 G319 (by omega) | clear F52 | skip
 first | replace Fk186 := Fk186.mv1 G319 (by omega) | clear Fk186 | skip
 first | replace F298 := F298.mv1 G319 (by first | exact ⟨by omega, by assumption⟩ | exact ⟨by omega, fun h => absurd h.1 (by assumption)⟩ | exact ⟨by omega, fun h => absurd h.1.1 (by assumption)⟩ | exact ⟨by omega, fun h => by first | (have h2 := h.1; have h3 := h.2; omega) | (have h2 := h; dsimp only at h2; omega)⟩ | first | omega | exact fun h => h | exact ⟨by omega, fun h => h⟩ | (intro h; first | (have := hD_b _ h; omega)) | (refine ⟨by omega, ?_⟩; intro h; first | (have := hD_b _ h; omega))) | clear F298 | skip
 first | replace F299 := F299.mv1 G319 (by omega) | clear F299 | skip
 first | replace F300 := F300.mv1 G319 (by omega) | clear F300 | skip
 replace HG := HG.n1 G319
 clear G319
 obtain ⟨w322, G323, G324⟩ := V.Fr.two G320
 clear G320
 have z325 := V.Fr.size G323
 first | replace F_b := F_b.mb G323 hD_b | clear F_b | skip
 first | replace Fk2 := Fk2.mv1 G323 (by omega) | clear Fk2 | skip
 first | replace Fk36 := Fk36.mv1 G323 (by omega) | clear Fk36 | skip
 first | replace Fk43 := Fk43.mv1 G323 (by omega) | clear Fk43 | skip
 first | replace F52 := F52.mv1 G323 (by omega) | clear F52 | skip
 first | replace Fk186 := Fk186.mv1 G323 (by omega) | clear Fk186 | skip
 first | replace F298 := F298.mv1 G323 (by first | exact ⟨by omega, by assumption⟩ | exact ⟨by omega, fun h => absurd h.1 (by assumption)⟩ | exact ⟨by omega, fun h => absurd h.1.1 (by assumption)⟩ | exact ⟨by omega, fun h => by first | (have h2 := h.1; have h3 := h.2; omega) | (have h2 := h; dsimp only at h2; omega)⟩ | first | omega | exact fun h => h | exact ⟨by omega, fun h => h⟩ | (intro h; first | (have := hD_b _ h; omega)) | (refine ⟨by omega, ?_⟩; intro h; first | (have := hD_b _ h; omega))) | clear F298 | skip
 first | replace F299 := F299.mv1 G323 (by omega) | clear F299 | skip
 first | replace F300 := F300.mv1 G323 (by omega) | clear F300 | skip
 replace HG := HG.n1 G323
 clear G323
 have z326 := V.Fr.size G324
 first | replace F_b := F_b.mb G324 hD_b | clear F_b | skip
 first | replace Fk2 := Fk2.mv1 G324 (by omega) | clear Fk2 | skip
 first | replace Fk36 := Fk36.mv1 G324 (by omega) | clear Fk36 | skip
 first | replace Fk43 := Fk43.mv1 G324 (by omega) | clear Fk43 | skip
 first | replace F52 := F52.mv1 G324 (by omega) | clear F52 | skip
 first | replace Fk186 := Fk186.mv1 G324 (by omega) | clear Fk186 | skip
 first | replace F298 := F298.mv1 G324 (by first | exact ⟨by omega, by assumption⟩ | exact ⟨by omega, fun h => absurd h.1 (by assumption)⟩ | exact ⟨by omega, fun h => absurd h.1.1 (by assumption)⟩ | exact ⟨by omega, fun h => by first | (have h2 := h.1; have h3 := h.2; omega) | (have h2 := h; dsimp only at h2; omega)⟩ | first | omega | exact fun h => h | exact ⟨by omega, fun h => h⟩ | (intro h; first | (have := hD_b _ h; omega)) | (refine ⟨by omega, ?_⟩; intro h; first | (have := hD_b _ h; omega))) | clear F298 | skip
 first | replace F299 := F299.mv1 G324 (by omega) | clear F299 | skip
 first | replace F300 := F300.mv1 G324 (by omega) | clear F300 | skip
 replace HG := HG.n1 G324
 clear G324
 simp only [V.spliceL, V.cellsL] at F315
 refine V.nil ?_
 refine V.tN ?_
 refine V.block ?_
 have z327 : w301.heap.size ≤ w316.heap.size := by omega
 try clear z313
 try clear z314
 try clear z315
 try clear z316
 try clear z317
 try clear z318
 try clear z319
 try clear z320
 try clear z321
 try clear z322
 try clear z323
 try clear z324
 try clear z325
 try clear z326
 generalize hd18 : (rdN d17 1099511627776).2 = d18 at F313
 generalize hb18 : (b17 || decide (¬ (rdN d17 1099511627776).1.2 = 0)) = b18 at F314
 generalize hq18_0 : (rdN d17 1099511627776).1.1 = q18_0 at F315
 have hR : decAll b = decEnd q1_0 q2_0 q3_0 q4_0 q5_0 q6_0 q7_0 q8_0 q8_1 q9_0 q10_0 q11_0 q12_0 q13_0 q14_0 q14_1 q15_0 q15_1 q16_0 q17_0 (wrL q18_0.toNat b18 d18 []) := by
  unfold decAll; rw [kN_eq hq1_0 hb1 hd1, kN_eq hq2_0 hb2 hd2, kN_eq hq3_0 hb3 hd3, kN_eq hq4_0 hb4 hd4, kN_eq hq5_0 hb5 hd5, kN_eq hq6_0 hb6 hd6, kT_eq hq7_0 hb7 hd7, kS_eq hq8_0 hq8_1 hb8 hd8, kN_eq hq9_0 hb9 hd9, kT_eq hq10_0 hb10 hd10, kT_eq hq11_0 hb11 hd11, kT_eq hq12_0 hb12 hd12, kF_eq hq13_0 hb13 hd13, kS_eq hq14_0 hq14_1 hb14 hd14, kS_eq hq15_0 hq15_1 hb15 hd15, kF_eq hq16_0 hb16 hd16, kF_eq hq17_0 hb17 hd17, kN_eq hq18_0 hb18 hd18]
 have hrn := rngN hq18_0
 clear hq1_0
 clear hb1
 clear hd1
 clear hq2_0
 clear hb2
 clear hd2
 clear hq3_0
 clear hb3
 clear hd3
 clear hq4_0
 clear hb4
 clear hd4
 clear hq5_0
 clear hb5
 clear hd5
 clear hq6_0
 clear hb6
 clear hd6
 clear hq7_0
 clear hb7
 clear hd7
 clear hq8_0
 clear hq8_1
 clear hb8
 clear hd8
 clear hq9_0
 clear hb9
 clear hd9
 clear hq10_0
 clear hb10
 clear hd10
 clear hq11_0
 clear hb11
 clear hd11
 clear hq12_0
 clear hb12
 clear hd12
 clear hq13_0
 clear hb13
 clear hd13
 clear hq14_0
 clear hq14_1
 clear hb14
 clear hd14
 clear hq15_0
 clear hq15_1
 clear hb15
 clear hd15
 clear hq16_0
 clear hb16
 clear hd16
 clear hq17_0
 clear hb17
 clear hd17
 clear hq18_0
 clear hb18
 clear hd18
 refine V.loopM (fun m e v329 => Fr [] w v329 ∧ w316.heap.size ≤ v329.heap.size ∧ Sl V.Cod.byte v329 D_b a_b c_b b ∧ Cells v329 k1 [.int .i64 0, .int .i64 0, .int .i64 0, .int .i64 0, .int .i64 0, .int .i64 0, .string ByteArray.empty, .int .i64 0, .int .i64 0, .int .i64 0, .string ByteArray.empty, .string ByteArray.empty, .string ByteArray.empty, .bool false, .int .i64 0, .int .i64 0, .int .i64 0, .int .i64 0, .bool false, .bool false, .slice none 0 0, .int .i64 0] 33 ∧ Cells v329 k42 [.pointer (some ⟨k28, 0, none⟩), .pointer (some ⟨k21, 1, none⟩), .pointer (some ⟨k21, 2, none⟩), .pointer (some ⟨k21, 3, none⟩), .pointer (some ⟨k21, 4, none⟩), .pointer (some ⟨k21, 5, none⟩)] 54 ∧ Cells v329 k28 [.int .i64 q1_0] 3 ∧ Cells v329 k185 [.pointer (some ⟨k21, 10, none⟩), .pointer (some ⟨k21, 11, none⟩), .pointer (some ⟨k21, 12, none⟩)] 58 ∧ ∃ (wr : Int) (bd : Bool) (cur : List UInt8) (acc : List (ByteArray × Int)) (ra9 : Option Addr) (rc9 : Nat), m = wr.toNat ∧ 0 ≤ wr ∧ wr ≤ 1099511627776 ∧ wrL wr.toNat bd cur acc = wrL q18_0.toNat b18 d18 [] ∧ (acc.length : Int) + wr ≤ 1099511627776 ∧ txOk acc ∧ Cells v329 k21 [.int .i64 0, .int .i64 q2_0, .int .i64 q3_0, .int .i64 q4_0, .int .i64 q5_0, .int .i64 q6_0, .string q7_0, .int .i64 q8_0, .int .i64 q8_1, .int .i64 q9_0, .string q10_0, .string q11_0, .string q12_0, .bool q13_0, .int .i64 q14_0, .int .i64 q14_1, .int .i64 q15_0, .int .i64 q15_1, .bool q16_0, .bool q17_0, .slice ra9 acc.length rc9, .int .i64 0] 33 ∧ V.Row V.Cod.write 65 v329 V.None' w316.heap.size v329.heap.size ra9 rc9 acc ∧ Rd v329 k8 (fun j => w3.heap.size ≤ j ∧ j < k8) cur ∧ Cells v329 k14 [.pointer (some ⟨k8, 0, none⟩), .bool bd] 53 ∧ Cells v329 k35 [.int .i64 wr] 3 ∧ e 2 = .pointer (some ⟨k1, 0, none⟩) ∧ e 4 = .pointer (some ⟨k14, 0, none⟩) ∧ e 5 = .pointer (some ⟨k21, 0, none⟩) ∧ e 6 = .pointer (some ⟨k28, 0, none⟩) ∧ e 7 = .pointer (some ⟨k35, 0, none⟩)) ?_ ?_
 ·
  exact ⟨_, HG, (by omega), F_b, Fk2, Fk43, F52, Fk186, (q18_0), (b18), (d18), ([]), _, _, rfl, (by omega), (by omega), (rfl), (by simp; omega), (by intro y hy; cases hy), F300, V.Row.nil, F313, F314, F315, rfl, rfl, rfl, rfl, rfl⟩
 try clear F300
 clear HG F_b Fk2 Fk43 F52 Fk186 F313 F314 F315
 rintro _ e v329 ⟨HG, z330, F_b, Fk2, Fk43, F52, Fk186, wr, bd, cur, acc, ra9, rc9, rfl, hw0, hw1, hinv, hal, htx, rFk9, rF9, F313, F314, F315, he2_2, he2_4, he2_5, he2_6, he2_7⟩
 refine V.knownC (t := 2) he2_2 ?_
 refine V.knownC (t := 4) he2_4 ?_
 refine V.knownC (t := 5) he2_5 ?_
 refine V.knownC (t := 6) he2_6 ?_
 refine V.knownC (t := 7) he2_7 ?_
 refine V.seq ?_
 refine V.seq ?_
 refine V.region ?_
 refine V.loadO T_ok F315 rfl rfl rfl rfl rfl ?_
 refine V.run T_ok 2 rfl ?_
 refine V.split (j := 2) (t := 79) rfl rfl (fun g23_2 => ?_) (fun g23_2 => ?_)
 ·
  try replace g23_2 := V.dec g23_2
  try simp only [V.mk0, V.mk1, V.mk2, V.mk3] at g23_2
  refine V.run T_ok 3 rfl ?_
  refine V.yes rfl rfl rfl ?_
  refine V.loadO T_ok F314 rfl rfl rfl rfl rfl ?_
  refine V.run T_ok 2 rfl ?_
  refine V.nil ?_
  refine V.tN ?_
  refine V.condT rfl (fun h23 => ?_) (fun h23 => ?_)
  ·
   try replace h23 := V.dec h23
   try simp only [V.mk0, V.mk1, V.mk2, V.mk3] at h23
   refine V.skip ?_
   refine V.tN ?_
   refine V.seq ?_
   refine V.block ?_
   refine V.seq ?_
   refine V.region ?_
   refine V.alloc zero65 rfl rfl rfl ?_
   rintro k331 w333 s335 s336 G334 Fk332
   have z337 := V.Fr.size G334
   try replace F_b := F_b.gr G334
   try replace Fk2 := Fk2.gr G334
   try replace Fk43 := Fk43.gr G334
   try replace F52 := F52.gr G334
   try replace Fk186 := Fk186.gr G334
   try replace F313 := F313.gr G334
   try replace F314 := F314.gr G334
   try replace F315 := F315.gr G334
   try replace rFk9 := rFk9.gr G334
   try replace rF9 := rF9.gr G334
   replace HG := HG.grow G334
   clear G334
   try simp only [V.cellsL, V.spliceL] at Fk332
   refine V.nil ?_
   refine V.tN ?_
   refine V.seq ?_
   refine V.region ?_
   refine V.run T_ok 2 rfl ?_
   refine V.call (tk_text (Ft := F314) (FX := F313) (Fx := Fk332) (off := 0) (hle := rfl) (n1 := by omega) (n2 := by omega) (n3 := by omega) (n4 := (by intro h; have := h.1; have := h.2; omega)) (n5 := (by intro h; have := h.1; have := h.2; omega))) rfl rfl rfl ?_
   rintro _ w341 ⟨rfl, F338, F339, F340, G342⟩
   obtain ⟨w343, G344, G345⟩ := V.Fr.cut G342
   clear G342
   have z346 := V.Fr.size G344
   first | replace F_b := F_b.mb G344 hD_b | clear F_b | skip
   first | replace Fk2 := Fk2.mv1 G344 (by omega) | clear Fk2 | skip
   first | replace Fk43 := Fk43.mv1 G344 (by omega) | clear Fk43 | skip
   first | replace F52 := F52.mv1 G344 (by omega) | clear F52 | skip
   first | replace Fk186 := Fk186.mv1 G344 (by omega) | clear Fk186 | skip
   first | replace F313 := F313.mv1 G344 (by first | exact ⟨by omega, by assumption⟩ | exact ⟨by omega, fun h => absurd h.1 (by assumption)⟩ | exact ⟨by omega, fun h => absurd h.1.1 (by assumption)⟩ | exact ⟨by omega, fun h => by first | (have h2 := h.1; have h3 := h.2; omega) | (have h2 := h; dsimp only at h2; omega)⟩ | first | omega | exact fun h => h | exact ⟨by omega, fun h => h⟩ | (intro h; first | (have := hD_b _ h; omega)) | (refine ⟨by omega, ?_⟩; intro h; first | (have := hD_b _ h; omega))) | clear F313 | skip
   first | replace F314 := F314.mv1 G344 (by omega) | clear F314 | skip
   first | replace F315 := F315.mv1 G344 (by omega) | clear F315 | skip
   first | replace rFk9 := rFk9.mv1 G344 (by omega) | clear rFk9 | skip
   first | replace rF9 := rF9.ma G344 | clear rF9 | skip
   first | replace Fk332 := Fk332.mv1 G344 (by omega) | clear Fk332 | skip
   replace HG := HG.n1 G344
   clear G344
   obtain ⟨w347, G348, G349⟩ := V.Fr.two G345
   clear G345
   have z350 := V.Fr.size G348
   first | replace F_b := F_b.mb G348 hD_b | clear F_b | skip
   first | replace Fk2 := Fk2.mv1 G348 (by omega) | clear Fk2 | skip
   first | replace Fk43 := Fk43.mv1 G348 (by omega) | clear Fk43 | skip
   first | replace F52 := F52.mv1 G348 (by omega) | clear F52 | skip
   first | replace Fk186 := Fk186.mv1 G348 (by omega) | clear Fk186 | skip
   first | replace F313 := F313.mv1 G348 (by first | exact ⟨by omega, by assumption⟩ | exact ⟨by omega, fun h => absurd h.1 (by assumption)⟩ | exact ⟨by omega, fun h => absurd h.1.1 (by assumption)⟩ | exact ⟨by omega, fun h => by first | (have h2 := h.1; have h3 := h.2; omega) | (have h2 := h; dsimp only at h2; omega)⟩ | first | omega | exact fun h => h | exact ⟨by omega, fun h => h⟩ | (intro h; first | (have := hD_b _ h; omega)) | (refine ⟨by omega, ?_⟩; intro h; first | (have := hD_b _ h; omega))) | clear F313 | skip
   first | replace F314 := F314.mv1 G348 (by omega) | clear F314 | skip
   first | replace F315 := F315.mv1 G348 (by omega) | clear F315 | skip
   first | replace rFk9 := rFk9.mv1 G348 (by omega) | clear rFk9 | skip
   first | replace rF9 := rF9.ma G348 | clear rF9 | skip
   first | replace Fk332 := Fk332.mv1 G348 (by omega) | clear Fk332 | skip
   replace HG := HG.n1 G348
   clear G348
   have z351 := V.Fr.size G349
   first | replace F_b := F_b.mb G349 hD_b | clear F_b | skip
   first | replace Fk2 := Fk2.mv1 G349 (by omega) | clear Fk2 | skip
   first | replace Fk43 := Fk43.mv1 G349 (by omega) | clear Fk43 | skip
   first | replace F52 := F52.mv1 G349 (by omega) | clear F52 | skip
   first | replace Fk186 := Fk186.mv1 G349 (by omega) | clear Fk186 | skip
   first | replace F313 := F313.mv1 G349 (by first | exact ⟨by omega, by assumption⟩ | exact ⟨by omega, fun h => absurd h.1 (by assumption)⟩ | exact ⟨by omega, fun h => absurd h.1.1 (by assumption)⟩ | exact ⟨by omega, fun h => by first | (have h2 := h.1; have h3 := h.2; omega) | (have h2 := h; dsimp only at h2; omega)⟩ | first | omega | exact fun h => h | exact ⟨by omega, fun h => h⟩ | (intro h; first | (have := hD_b _ h; omega)) | (refine ⟨by omega, ?_⟩; intro h; first | (have := hD_b _ h; omega))) | clear F313 | skip
   first | replace F314 := F314.mv1 G349 (by omega) | clear F314 | skip
   first | replace F315 := F315.mv1 G349 (by omega) | clear F315 | skip
   first | replace rFk9 := rFk9.mv1 G349 (by omega) | clear rFk9 | skip
   first | replace rF9 := rF9.ma G349 | clear rF9 | skip
   first | replace Fk332 := Fk332.mv1 G349 (by omega) | clear Fk332 | skip
   replace HG := HG.n1 G349
   clear G349
   simp only [V.spliceL, V.cellsL] at F340
   refine V.nil ?_
   refine V.tN ?_
   refine V.seq ?_
   refine V.region ?_
   refine V.run T_ok 2 rfl ?_
   refine V.call (tk_number (Ft := F339) (FX := F338) (Fx := F340) (off := 1) (hle := rfl) (n1 := by omega) (n2 := by omega) (n3 := by omega) (n4 := (by intro h; have := h.1; have := h.2; omega)) (n5 := (by intro h; have := h.1; have := h.2; omega))) rfl rfl rfl ?_
   rintro _ w355 ⟨rfl, F352, F353, F354, G356⟩
   obtain ⟨w357, G358, G359⟩ := V.Fr.cut G356
   clear G356
   have z360 := V.Fr.size G358
   first | replace F_b := F_b.mb G358 hD_b | clear F_b | skip
   first | replace Fk2 := Fk2.mv1 G358 (by omega) | clear Fk2 | skip
   first | replace Fk43 := Fk43.mv1 G358 (by omega) | clear Fk43 | skip
   first | replace F52 := F52.mv1 G358 (by omega) | clear F52 | skip
   first | replace Fk186 := Fk186.mv1 G358 (by omega) | clear Fk186 | skip
   first | replace F315 := F315.mv1 G358 (by omega) | clear F315 | skip
   first | replace rFk9 := rFk9.mv1 G358 (by omega) | clear rFk9 | skip
   first | replace rF9 := rF9.ma G358 | clear rF9 | skip
   first | replace F338 := F338.mv1 G358 (by first | exact ⟨by omega, by assumption⟩ | exact ⟨by omega, fun h => absurd h.1 (by assumption)⟩ | exact ⟨by omega, fun h => absurd h.1.1 (by assumption)⟩ | exact ⟨by omega, fun h => by first | (have h2 := h.1; have h3 := h.2; omega) | (have h2 := h; dsimp only at h2; omega)⟩ | first | omega | exact fun h => h | exact ⟨by omega, fun h => h⟩ | (intro h; first | (have := hD_b _ h; omega)) | (refine ⟨by omega, ?_⟩; intro h; first | (have := hD_b _ h; omega))) | clear F338 | skip
   first | replace F339 := F339.mv1 G358 (by omega) | clear F339 | skip
   first | replace F340 := F340.mv1 G358 (by omega) | clear F340 | skip
   replace HG := HG.n1 G358
   clear G358
   obtain ⟨w361, G362, G363⟩ := V.Fr.two G359
   clear G359
   have z364 := V.Fr.size G362
   first | replace F_b := F_b.mb G362 hD_b | clear F_b | skip
   first | replace Fk2 := Fk2.mv1 G362 (by omega) | clear Fk2 | skip
   first | replace Fk43 := Fk43.mv1 G362 (by omega) | clear Fk43 | skip
   first | replace F52 := F52.mv1 G362 (by omega) | clear F52 | skip
   first | replace Fk186 := Fk186.mv1 G362 (by omega) | clear Fk186 | skip
   first | replace F315 := F315.mv1 G362 (by omega) | clear F315 | skip
   first | replace rFk9 := rFk9.mv1 G362 (by omega) | clear rFk9 | skip
   first | replace rF9 := rF9.ma G362 | clear rF9 | skip
   first | replace F338 := F338.mv1 G362 (by first | exact ⟨by omega, by assumption⟩ | exact ⟨by omega, fun h => absurd h.1 (by assumption)⟩ | exact ⟨by omega, fun h => absurd h.1.1 (by assumption)⟩ | exact ⟨by omega, fun h => by first | (have h2 := h.1; have h3 := h.2; omega) | (have h2 := h; dsimp only at h2; omega)⟩ | first | omega | exact fun h => h | exact ⟨by omega, fun h => h⟩ | (intro h; first | (have := hD_b _ h; omega)) | (refine ⟨by omega, ?_⟩; intro h; first | (have := hD_b _ h; omega))) | clear F338 | skip
   first | replace F339 := F339.mv1 G362 (by omega) | clear F339 | skip
   first | replace F340 := F340.mv1 G362 (by omega) | clear F340 | skip
   replace HG := HG.n1 G362
   clear G362
   have z365 := V.Fr.size G363
   first | replace F_b := F_b.mb G363 hD_b | clear F_b | skip
   first | replace Fk2 := Fk2.mv1 G363 (by omega) | clear Fk2 | skip
   first | replace Fk43 := Fk43.mv1 G363 (by omega) | clear Fk43 | skip
   first | replace F52 := F52.mv1 G363 (by omega) | clear F52 | skip
   first | replace Fk186 := Fk186.mv1 G363 (by omega) | clear Fk186 | skip
   first | replace F315 := F315.mv1 G363 (by omega) | clear F315 | skip
   first | replace rFk9 := rFk9.mv1 G363 (by omega) | clear rFk9 | skip
   first | replace rF9 := rF9.ma G363 | clear rF9 | skip
   first | replace F338 := F338.mv1 G363 (by first | exact ⟨by omega, by assumption⟩ | exact ⟨by omega, fun h => absurd h.1 (by assumption)⟩ | exact ⟨by omega, fun h => absurd h.1.1 (by assumption)⟩ | exact ⟨by omega, fun h => by first | (have h2 := h.1; have h3 := h.2; omega) | (have h2 := h; dsimp only at h2; omega)⟩ | first | omega | exact fun h => h | exact ⟨by omega, fun h => h⟩ | (intro h; first | (have := hD_b _ h; omega)) | (refine ⟨by omega, ?_⟩; intro h; first | (have := hD_b _ h; omega))) | clear F338 | skip
   first | replace F339 := F339.mv1 G363 (by omega) | clear F339 | skip
   first | replace F340 := F340.mv1 G363 (by omega) | clear F340 | skip
   replace HG := HG.n1 G363
   clear G363
   simp only [V.spliceL, V.cellsL] at F354
   refine V.nil ?_
   refine V.tN ?_
   refine V.region ?_
   refine V.run T_ok 1 rfl ?_
   refine V.loadO T_ok rFk9 rfl rfl rfl rfl rfl ?_
   refine V.loadO T_ok F354 rfl rfl rfl rfl rfl ?_
   refine V.mkSlice T_ok zero65 rfl rfl sz65 rfl rfl rfl rfl rfl rfl ?_
   rintro k366 w369 s371 s372 G370 Fk367
   have z373 := V.Fr.size G370
   try replace F_b := F_b.gr G370
   try replace Fk2 := Fk2.gr G370
   try replace Fk43 := Fk43.gr G370
   try replace F52 := F52.gr G370
   try replace Fk186 := Fk186.gr G370
   try replace F315 := F315.gr G370
   try replace rFk9 := rFk9.gr G370
   try replace rF9 := rF9.gr G370
   try replace F352 := F352.gr G370
   try replace F353 := F353.gr G370
   try replace F354 := F354.gr G370
   replace HG := HG.grow G370
   clear G370
   have F368 := V.rowOfC (xs := ([(S (rdT cur 65536).1.1, (rdN ((rdT cur 65536).2) 1099511627776).1.1)] : List (ByteArray × Int))) Fk367 (C := V.Cod.write) (V.reps_cons (x := (S (rdT cur 65536).1.1, (rdN ((rdT cur 65536).2) 1099511627776).1.1)) ⟨_, _, rfl, rfl, rfl⟩ rfl rfl) rfl
   clear Fk367
   refine V.appendR (rF9) (V.From.flat V.flat_write (D' := V.None') (F368.sl.from Try.underlying31)) elT31_31 rfl rfl rfl rfl rfl (by first | omega | (simp only [List.length_take, List.length_drop, List.length_append, List.length_cons, List.length_nil, List.length_replicate, List.length_set, V.length_data, V.S_size]; omega)) (by unfold maxLen; first | omega | (simp only [List.length_take, List.length_drop, List.length_append, List.length_cons, List.length_nil, List.length_replicate, List.length_set, V.length_data, V.S_size]; omega)) (by omega) (by omega) (fun _ h => h.elim) (fun _ h => h.elim) ?_
   rintro a374 c375 w377 G378 s379 F376
   clear rF9
   clear F368
   have z380 := Go.RowKit.Below.size G378
   first | replace F_b := V.Sl.bl F_b G378 (by first | exact (fun _ h => by have := h.2; omega) | (intro k h; have := hD_b k h; omega)) | clear F_b | skip
   first | replace Fk2 := V.Cells.bl Fk2 G378 (by omega) | clear Fk2 | skip
   first | replace Fk43 := V.Cells.bl Fk43 G378 (by omega) | clear Fk43 | skip
   first | replace F52 := V.Cells.bl F52 G378 (by omega) | clear F52 | skip
   first | replace Fk186 := V.Cells.bl Fk186 G378 (by omega) | clear Fk186 | skip
   first | replace F315 := V.Cells.bl F315 G378 (by omega) | clear F315 | skip
   first | replace rFk9 := V.Cells.bl rFk9 G378 (by omega) | clear rFk9 | skip
   first | replace F352 := F352.bl G378 (by first | exact ⟨by omega, fun j h => by have := h.2; omega⟩ | (first | omega | exact fun h => h | exact ⟨by omega, fun h => h⟩ | (intro h; first | (have := hD_b _ h; omega)) | (refine ⟨by omega, ?_⟩; intro h; first | (have := hD_b _ h; omega)))) | clear F352 | skip
   first | replace F353 := V.Cells.bl F353 G378 (by omega) | clear F353 | skip
   first | replace F354 := V.Cells.bl F354 G378 (by omega) | clear F354 | skip
   replace HG := HG.bl (Go.RowKit.Below.mono G378 (by omega))
   clear G378
   refine V.run T_ok 1 rfl ?_
   refine V.storeO rFk9 rfl rfl rfl rfl sz31 rfl rfl rfl rfl ?_
   rintro w381 G382 z384 Fs383
   clear rFk9
   have z385 := V.Fr.size G382
   first | replace F_b := F_b.mb G382 hD_b | clear F_b | skip
   first | replace Fk2 := Fk2.mv1 G382 (by omega) | clear Fk2 | skip
   first | replace Fk43 := Fk43.mv1 G382 (by omega) | clear Fk43 | skip
   first | replace F52 := F52.mv1 G382 (by omega) | clear F52 | skip
   first | replace Fk186 := Fk186.mv1 G382 (by omega) | clear Fk186 | skip
   first | replace F315 := F315.mv1 G382 (by omega) | clear F315 | skip
   first | replace F352 := F352.mv1 G382 (by first | exact ⟨by omega, by assumption⟩ | exact ⟨by omega, fun h => absurd h.1 (by assumption)⟩ | exact ⟨by omega, fun h => absurd h.1.1 (by assumption)⟩ | exact ⟨by omega, fun h => by first | (have h2 := h.1; have h3 := h.2; omega) | (have h2 := h; dsimp only at h2; omega)⟩ | first | omega | exact fun h => h | exact ⟨by omega, fun h => h⟩ | (intro h; first | (have := hD_b _ h; omega)) | (refine ⟨by omega, ?_⟩; intro h; first | (have := hD_b _ h; omega))) | clear F352 | skip
   first | replace F353 := F353.mv1 G382 (by omega) | clear F353 | skip
   first | replace F354 := F354.mv1 G382 (by omega) | clear F354 | skip
   first | replace F376 := F376.ma G382 | clear F376 | skip
   replace HG := HG.n1 G382
   clear G382
   have rFk9 := Fs383; clear Fs383
   simp only [V.spliceL, V.cellsL] at rFk9
   refine V.nil ?_
   refine V.bN ?_
   refine V.tN ?_
   refine V.region ?_
   refine V.loadO T_ok F315 rfl rfl rfl rfl rfl ?_
   refine V.subN rfl rfl rfl rfl rfl (by first | omega | (simp only [List.length_take, List.length_drop, List.length_append, List.length_cons, List.length_nil, List.length_replicate, List.length_set, V.length_data, V.S_size]; omega)) (by first | omega | (simp only [List.length_take, List.length_drop, List.length_append, List.length_cons, List.length_nil, List.length_replicate, List.length_set, V.length_data, V.S_size]; omega)) ?_
   refine V.storeO F315 rfl rfl rfl rfl sz3 rfl rfl rfl rfl ?_
   rintro w386 G387 z389 Fs388
   clear F315
   have z390 := V.Fr.size G387
   first | replace F_b := F_b.mb G387 hD_b | clear F_b | skip
   first | replace Fk2 := Fk2.mv1 G387 (by omega) | clear Fk2 | skip
   first | replace Fk43 := Fk43.mv1 G387 (by omega) | clear Fk43 | skip
   first | replace F52 := F52.mv1 G387 (by omega) | clear F52 | skip
   first | replace Fk186 := Fk186.mv1 G387 (by omega) | clear Fk186 | skip
   first | replace F352 := F352.mv1 G387 (by first | exact ⟨by omega, by assumption⟩ | exact ⟨by omega, fun h => absurd h.1 (by assumption)⟩ | exact ⟨by omega, fun h => absurd h.1.1 (by assumption)⟩ | exact ⟨by omega, fun h => by first | (have h2 := h.1; have h3 := h.2; omega) | (have h2 := h; dsimp only at h2; omega)⟩ | first | omega | exact fun h => h | exact ⟨by omega, fun h => h⟩ | (intro h; first | (have := hD_b _ h; omega)) | (refine ⟨by omega, ?_⟩; intro h; first | (have := hD_b _ h; omega))) | clear F352 | skip
   first | replace F353 := F353.mv1 G387 (by omega) | clear F353 | skip
   first | replace F354 := F354.mv1 G387 (by omega) | clear F354 | skip
   first | replace F376 := F376.ma G387 | clear F376 | skip
   first | replace rFk9 := rFk9.mv1 G387 (by omega) | clear rFk9 | skip
   replace HG := HG.n1 G387
   clear G387
   have F315 := Fs388; clear Fs388
   simp only [V.spliceL, V.cellsL] at F315
   refine V.nil ?_
   refine V.tN ?_
   exact ⟨_, (by omega), HG, (by omega), F_b, Fk2, Fk43, F52, Fk186, (wr - 1), ((bd || decide (¬ (rdT cur 65536).1.2 = 0)) || decide (¬ (rdN ((rdT cur 65536).2) 1099511627776).1.2 = 0)), ((rdN ((rdT cur 65536).2) 1099511627776).2), (acc ++ ([(S (rdT cur 65536).1.1, (rdN ((rdT cur 65536).2) 1099511627776).1.1)] : List (ByteArray × Int))), _, _, rfl, (by omega), (by omega), ((wrL_succ g23_2 h23).symm.trans hinv), (by rw [List.length_append]; simp; omega), (htx.snoc (szT rfl)), rFk9, F376.re, F352, F353, F315, rfl, rfl, rfl, rfl, rfl⟩
  ·
   try replace h23 := V.dec h23
   try simp only [V.mk0, V.mk1, V.mk2, V.mk3] at h23
   refine V.exit ?_
   refine V.tX ?_
   refine V.tX ?_
   refine V.bE ?_
   refine V.tN ?_
   refine V.seq ?_
   refine V.region ?_
   refine V.run T_ok 2 rfl ?_
   refine V.call (tk_number (Ft := F314) (FX := F313) (Fx := rFk9) (off := 21) (hle := rfl) (n1 := by omega) (n2 := by omega) (n3 := by omega) (n4 := (by intro h; have := h.1; have := h.2; omega)) (n5 := (by intro h; have := h.1; have := h.2; omega))) rfl rfl rfl ?_
   rintro _ w394 ⟨rfl, F391, F392, F393, G395⟩
   obtain ⟨w396, G397, G398⟩ := V.Fr.cut G395
   clear G395
   have z399 := V.Fr.size G397
   first | replace F_b := F_b.mb G397 hD_b | clear F_b | skip
   first | replace Fk2 := Fk2.mv1 G397 (by omega) | clear Fk2 | skip
   first | replace Fk43 := Fk43.mv1 G397 (by omega) | clear Fk43 | skip
   first | replace F52 := F52.mv1 G397 (by omega) | clear F52 | skip
   first | replace Fk186 := Fk186.mv1 G397 (by omega) | clear Fk186 | skip
   first | replace F313 := F313.mv1 G397 (by first | exact ⟨by omega, by assumption⟩ | exact ⟨by omega, fun h => absurd h.1 (by assumption)⟩ | exact ⟨by omega, fun h => absurd h.1.1 (by assumption)⟩ | exact ⟨by omega, fun h => by first | (have h2 := h.1; have h3 := h.2; omega) | (have h2 := h; dsimp only at h2; omega)⟩ | first | omega | exact fun h => h | exact ⟨by omega, fun h => h⟩ | (intro h; first | (have := hD_b _ h; omega)) | (refine ⟨by omega, ?_⟩; intro h; first | (have := hD_b _ h; omega))) | clear F313 | skip
   first | replace F314 := F314.mv1 G397 (by omega) | clear F314 | skip
   first | replace F315 := F315.mv1 G397 (by omega) | clear F315 | skip
   first | replace rFk9 := rFk9.mv1 G397 (by omega) | clear rFk9 | skip
   first | replace rF9 := rF9.ma G397 | clear rF9 | skip
   replace HG := HG.n1 G397
   clear G397
   obtain ⟨w400, G401, G402⟩ := V.Fr.two G398
   clear G398
   have z403 := V.Fr.size G401
   first | replace F_b := F_b.mb G401 hD_b | clear F_b | skip
   first | replace Fk2 := Fk2.mv1 G401 (by omega) | clear Fk2 | skip
   first | replace Fk43 := Fk43.mv1 G401 (by omega) | clear Fk43 | skip
   first | replace F52 := F52.mv1 G401 (by omega) | clear F52 | skip
   first | replace Fk186 := Fk186.mv1 G401 (by omega) | clear Fk186 | skip
   first | replace F313 := F313.mv1 G401 (by first | exact ⟨by omega, by assumption⟩ | exact ⟨by omega, fun h => absurd h.1 (by assumption)⟩ | exact ⟨by omega, fun h => absurd h.1.1 (by assumption)⟩ | exact ⟨by omega, fun h => by first | (have h2 := h.1; have h3 := h.2; omega) | (have h2 := h; dsimp only at h2; omega)⟩ | first | omega | exact fun h => h | exact ⟨by omega, fun h => h⟩ | (intro h; first | (have := hD_b _ h; omega)) | (refine ⟨by omega, ?_⟩; intro h; first | (have := hD_b _ h; omega))) | clear F313 | skip
   first | replace F314 := F314.mv1 G401 (by omega) | clear F314 | skip
   first | replace F315 := F315.mv1 G401 (by omega) | clear F315 | skip
   first | replace rFk9 := rFk9.mv1 G401 (by omega) | clear rFk9 | skip
   first | replace rF9 := rF9.ma G401 | clear rF9 | skip
   replace HG := HG.n1 G401
   clear G401
   have z404 := V.Fr.size G402
   first | replace F_b := F_b.mb G402 hD_b | clear F_b | skip
   first | replace Fk2 := Fk2.mv1 G402 (by omega) | clear Fk2 | skip
   first | replace Fk43 := Fk43.mv1 G402 (by omega) | clear Fk43 | skip
   first | replace F52 := F52.mv1 G402 (by omega) | clear F52 | skip
   first | replace Fk186 := Fk186.mv1 G402 (by omega) | clear Fk186 | skip
   first | replace F313 := F313.mv1 G402 (by first | exact ⟨by omega, by assumption⟩ | exact ⟨by omega, fun h => absurd h.1 (by assumption)⟩ | exact ⟨by omega, fun h => absurd h.1.1 (by assumption)⟩ | exact ⟨by omega, fun h => by first | (have h2 := h.1; have h3 := h.2; omega) | (have h2 := h; dsimp only at h2; omega)⟩ | first | omega | exact fun h => h | exact ⟨by omega, fun h => h⟩ | (intro h; first | (have := hD_b _ h; omega)) | (refine ⟨by omega, ?_⟩; intro h; first | (have := hD_b _ h; omega))) | clear F313 | skip
   first | replace F314 := F314.mv1 G402 (by omega) | clear F314 | skip
   first | replace F315 := F315.mv1 G402 (by omega) | clear F315 | skip
   first | replace rFk9 := rFk9.mv1 G402 (by omega) | clear rFk9 | skip
   first | replace rF9 := rF9.ma G402 | clear rF9 | skip
   replace HG := HG.n1 G402
   clear G402
   simp only [V.spliceL, V.cellsL] at F393
   refine V.nil ?_
   refine V.tN ?_
   refine V.seq ?_
   refine V.seq ?_
   have hR2 : decAll b = ((⟨q1_0, q2_0, q3_0, q4_0, q5_0, q6_0, q7_0, q8_0, q8_1, q9_0, q10_0, q11_0, q12_0, q13_0, q14_0, q14_1, q15_0, q15_1, q16_0, q17_0, acc, (rdN cur 1099511627776).1.1⟩ : CmdV), bd || decide (¬ (rdN cur 1099511627776).1.2 = 0), (rdN cur 1099511627776).2) := by
    rw [hR, ← hinv, wrL_end (by intro hq; first | exact g23_2 hq.1 | (have := hq.1; omega) | exact h23 hq.2 | (rw [hq.2] at h23; cases h23))]; rfl
   clear hR hinv
   generalize (rdN cur 1099511627776).1.1 = pr at F393 hR2
   generalize (bd || decide (¬ (rdN cur 1099511627776).1.2 = 0)) = bE at F392 hR2
   generalize (rdN cur 1099511627776).2 = dE at F391 hR2
   refine V.region ?_
   refine V.loadO T_ok F52 rfl rfl rfl rfl rfl ?_
   refine V.run T_ok 1 rfl ?_
   refine V.storeO F393 rfl rfl rfl rfl sz24 rfl rfl rfl rfl ?_
   rintro w405 G406 z408 Fs407
   clear F393
   have z409 := V.Fr.size G406
   first | replace F_b := F_b.mb G406 hD_b | clear F_b | skip
   first | replace Fk2 := Fk2.mv1 G406 (by omega) | clear Fk2 | skip
   first | replace Fk43 := Fk43.mv1 G406 (by omega) | clear Fk43 | skip
   first | replace F52 := F52.mv1 G406 (by omega) | clear F52 | skip
   first | replace Fk186 := Fk186.mv1 G406 (by omega) | clear Fk186 | skip
   first | replace F315 := F315.mv1 G406 (by omega) | clear F315 | skip
   first | replace rF9 := rF9.ma G406 | clear rF9 | skip
   first | replace F391 := F391.mv1 G406 (by first | exact ⟨by omega, by assumption⟩ | exact ⟨by omega, fun h => absurd h.1 (by assumption)⟩ | exact ⟨by omega, fun h => absurd h.1.1 (by assumption)⟩ | exact ⟨by omega, fun h => by first | (have h2 := h.1; have h3 := h.2; omega) | (have h2 := h; dsimp only at h2; omega)⟩ | first | omega | exact fun h => h | exact ⟨by omega, fun h => h⟩ | (intro h; first | (have := hD_b _ h; omega)) | (refine ⟨by omega, ?_⟩; intro h; first | (have := hD_b _ h; omega))) | clear F391 | skip
   first | replace F392 := F392.mv1 G406 (by omega) | clear F392 | skip
   replace HG := HG.n1 G406
   clear G406
   have F393 := Fs407; clear Fs407
   simp only [V.spliceL, V.cellsL] at F393
   refine V.nil ?_
   refine V.tN ?_
   refine V.seq ?_
   refine V.region ?_
   refine V.run T_ok 3 rfl ?_
   refine V.loadO T_ok F392 rfl rfl rfl rfl rfl ?_
   refine V.run T_ok 1 rfl ?_
   refine V.split (j := 4) (t := 109) rfl rfl (fun g31_4 => ?_) (fun g31_4 => ?_)
   ·
    try replace g31_4 := V.dec g31_4
    try simp only [V.mk0, V.mk1, V.mk2, V.mk3] at g31_4
    refine V.run T_ok 12 rfl ?_
    refine V.nil ?_
    refine V.tN ?_
    refine V.condY rfl rfl ?_
    refine V.seq ?_
    refine V.region ?_
    refine V.mkStruct T_ok zero33 rfl rfl rfl rfl rfl ?_
    refine V.storeO Fk2 rfl rfl rfl rfl sz33 rfl rfl rfl rfl ?_
    rintro w410 G411 z413 Fs412
    clear Fk2
    have z414 := V.Fr.size G411
    first | replace F_b := F_b.mb G411 hD_b | clear F_b | skip
    first | replace Fk43 := Fk43.mv1 G411 (by omega) | clear Fk43 | skip
    first | replace F52 := F52.mv1 G411 (by omega) | clear F52 | skip
    first | replace Fk186 := Fk186.mv1 G411 (by omega) | clear Fk186 | skip
    first | replace F315 := F315.mv1 G411 (by omega) | clear F315 | skip
    first | replace rF9 := rF9.ma G411 | clear rF9 | skip
    first | replace F391 := F391.mv1 G411 (by first | exact ⟨by omega, by assumption⟩ | exact ⟨by omega, fun h => absurd h.1 (by assumption)⟩ | exact ⟨by omega, fun h => absurd h.1.1 (by assumption)⟩ | exact ⟨by omega, fun h => by first | (have h2 := h.1; have h3 := h.2; omega) | (have h2 := h; dsimp only at h2; omega)⟩ | first | omega | exact fun h => h | exact ⟨by omega, fun h => h⟩ | (intro h; first | (have := hD_b _ h; omega)) | (refine ⟨by omega, ?_⟩; intro h; first | (have := hD_b _ h; omega))) | clear F391 | skip
    first | replace F392 := F392.mv1 G411 (by omega) | clear F392 | skip
    first | replace F393 := F393.mv1 G411 (by omega) | clear F393 | skip
    replace HG := HG.n1 G411
    clear G411
    have Fk2 := Fs412; clear Fs412
    simp only [V.spliceL, V.cellsL] at Fk2
    refine V.run T_ok 1 rfl ?_
    refine V.nil ?_
    refine V.tN ?_
    refine V.ret ?_
    refine V.tR ?_
    refine V.done2 rfl (V.resV_cell T_ok Fk2 rfl rfl) (V.resV_tmp rfl) ?_
    rw [show decC b = none from decC_no hR2 (by rintro ⟨h1, h2, h3⟩; first | (rw [h1] at g31_4; cases g31_4; done) | exact g31_12 (if_pos h2) | (rw [h3] at h31; cases h31; done))]
    exact ⟨none, 0, (by first | rfl | simp only [List.length_set]), V.Row.nil, HG⟩
   ·
    try replace g31_4 := V.dec g31_4
    try simp only [V.mk0, V.mk1, V.mk2, V.mk3] at g31_4
    refine V.run T_ok 3 rfl ?_
    refine V.yes rfl rfl rfl ?_
    refine V.loadO T_ok F392 rfl rfl rfl rfl rfl ?_
    refine V.yes rfl rfl rfl ?_
    refine V.call (rd_end F391) rfl rfl rfl ?_
    rintro _ w405_ ⟨rfl, rfl⟩
    refine V.run T_ok 3 rfl ?_
    refine V.split (j := 12) (t := 117) rfl rfl (fun g31_12 => ?_) (fun g31_12 => ?_)
    ·
     try replace g31_12 := V.dec g31_12
     try simp only [V.mk0, V.mk1, V.mk2, V.mk3] at g31_12
     refine V.run T_ok 4 rfl ?_
     refine V.nil ?_
     refine V.tN ?_
     refine V.condY rfl rfl ?_
     refine V.seq ?_
     refine V.region ?_
     refine V.mkStruct T_ok zero33 rfl rfl rfl rfl rfl ?_
     refine V.storeO Fk2 rfl rfl rfl rfl sz33 rfl rfl rfl rfl ?_
     rintro w416 G417 z419 Fs418
     clear Fk2
     have z420 := V.Fr.size G417
     first | replace F_b := F_b.mb G417 hD_b | clear F_b | skip
     first | replace Fk43 := Fk43.mv1 G417 (by omega) | clear Fk43 | skip
     first | replace F52 := F52.mv1 G417 (by omega) | clear F52 | skip
     first | replace Fk186 := Fk186.mv1 G417 (by omega) | clear Fk186 | skip
     first | replace F315 := F315.mv1 G417 (by omega) | clear F315 | skip
     first | replace rF9 := rF9.ma G417 | clear rF9 | skip
     first | replace F391 := F391.mv1 G417 (by first | exact ⟨by omega, by assumption⟩ | exact ⟨by omega, fun h => absurd h.1 (by assumption)⟩ | exact ⟨by omega, fun h => absurd h.1.1 (by assumption)⟩ | exact ⟨by omega, fun h => by first | (have h2 := h.1; have h3 := h.2; omega) | (have h2 := h; dsimp only at h2; omega)⟩ | first | omega | exact fun h => h | exact ⟨by omega, fun h => h⟩ | (intro h; first | (have := hD_b _ h; omega)) | (refine ⟨by omega, ?_⟩; intro h; first | (have := hD_b _ h; omega))) | clear F391 | skip
     first | replace F392 := F392.mv1 G417 (by omega) | clear F392 | skip
     first | replace F393 := F393.mv1 G417 (by omega) | clear F393 | skip
     replace HG := HG.n1 G417
     clear G417
     have Fk2 := Fs418; clear Fs418
     simp only [V.spliceL, V.cellsL] at Fk2
     refine V.run T_ok 1 rfl ?_
     refine V.nil ?_
     refine V.tN ?_
     refine V.ret ?_
     refine V.tR ?_
     refine V.done2 rfl (V.resV_cell T_ok Fk2 rfl rfl) (V.resV_tmp rfl) ?_
     rw [show decC b = none from decC_no hR2 (by rintro ⟨h1, h2, h3⟩; first | (rw [h1] at g31_4; cases g31_4; done) | exact g31_12 (if_pos h2) | (rw [h3] at h31; cases h31; done))]
     exact ⟨none, 0, (by first | rfl | simp only [List.length_set]), V.Row.nil, HG⟩
    ·
     try replace g31_12 := V.dec g31_12
     try simp only [V.mk0, V.mk1, V.mk2, V.mk3] at g31_12
     refine V.yes rfl rfl rfl ?_
     have hsz : SzOk (⟨q1_0, q2_0, q3_0, q4_0, q5_0, q6_0, q7_0, q8_0, q8_1, q9_0, q10_0, q11_0, q12_0, q13_0, q14_0, q14_1, q15_0, q15_1, q16_0, q17_0, acc, pr⟩ : CmdV) := ⟨by assumption, by assumption, by assumption, by assumption, htx⟩
     refine V.loadO T_ok F393 rfl rfl rfl rfl rfl ?_
     refine V.yes rfl rfl rfl ?_
     refine V.call (cright_spec (d := (⟨q1_0, q2_0, q3_0, q4_0, q5_0, q6_0, q7_0, q8_0, q8_1, q9_0, q10_0, q11_0, q12_0, q13_0, q14_0, q14_1, q15_0, q15_1, q16_0, q17_0, acc, pr⟩ : CmdV)) rF9.sl (fun k hk => by have := hk.2; omega) (by first | assumption | exact hz | (constructor <;> first | exact hz.an | exact hz.fr | exact hz.to | exact hz.va | exact hz.ws | exact (by decide : (S []).size ≤ 9223372036854775807) | exact (fun x hx => nomatch (show x ∈ ([] : List (ByteArray × Int)) from hx))))) rfl rfl rfl ?_
     rintro _ w421 ⟨rfl, G422⟩
     have z423 := V.Fr.size G422
     try replace F_b := F_b.gr G422
     try replace Fk2 := Fk2.gr G422
     try replace Fk43 := Fk43.gr G422
     try replace F52 := F52.gr G422
     try replace Fk186 := Fk186.gr G422
     try replace F315 := F315.gr G422
     try replace rF9 := rF9.gr G422
     try replace F391 := F391.gr G422
     try replace F392 := F392.gr G422
     try replace F393 := F393.gr G422
     replace HG := HG.grow G422
     clear G422
     refine V.run T_ok 2 rfl ?_
     refine V.nil ?_
     refine V.tN ?_
     refine V.condT rfl (fun h31 => ?_) (fun h31 => ?_)
     ·
      try replace h31 := V.dec h31
      try simp only [V.mk0, V.mk1, V.mk2, V.mk3] at h31
      refine V.seq ?_
      refine V.region ?_
      refine V.mkStruct T_ok zero33 rfl rfl rfl rfl rfl ?_
      refine V.storeO Fk2 rfl rfl rfl rfl sz33 rfl rfl rfl rfl ?_
      rintro w424 G425 z427 Fs426
      clear Fk2
      have z428 := V.Fr.size G425
      first | replace F_b := F_b.mb G425 hD_b | clear F_b | skip
      first | replace Fk43 := Fk43.mv1 G425 (by omega) | clear Fk43 | skip
      first | replace F52 := F52.mv1 G425 (by omega) | clear F52 | skip
      first | replace Fk186 := Fk186.mv1 G425 (by omega) | clear Fk186 | skip
      first | replace F315 := F315.mv1 G425 (by omega) | clear F315 | skip
      first | replace rF9 := rF9.ma G425 | clear rF9 | skip
      first | replace F391 := F391.mv1 G425 (by first | exact ⟨by omega, by assumption⟩ | exact ⟨by omega, fun h => absurd h.1 (by assumption)⟩ | exact ⟨by omega, fun h => absurd h.1.1 (by assumption)⟩ | exact ⟨by omega, fun h => by first | (have h2 := h.1; have h3 := h.2; omega) | (have h2 := h; dsimp only at h2; omega)⟩ | first | omega | exact fun h => h | exact ⟨by omega, fun h => h⟩ | (intro h; first | (have := hD_b _ h; omega)) | (refine ⟨by omega, ?_⟩; intro h; first | (have := hD_b _ h; omega))) | clear F391 | skip
      first | replace F392 := F392.mv1 G425 (by omega) | clear F392 | skip
      first | replace F393 := F393.mv1 G425 (by omega) | clear F393 | skip
      replace HG := HG.n1 G425
      clear G425
      have Fk2 := Fs426; clear Fs426
      simp only [V.spliceL, V.cellsL] at Fk2
      refine V.run T_ok 1 rfl ?_
      refine V.nil ?_
      refine V.tN ?_
      refine V.ret ?_
      refine V.tR ?_
      refine V.done2 rfl (V.resV_cell T_ok Fk2 rfl rfl) (V.resV_tmp rfl) ?_
      rw [show decC b = none from decC_no hR2 (by rintro ⟨h1, h2, h3⟩; first | (rw [h1] at g31_4; cases g31_4; done) | exact g31_12 (if_pos h2) | (rw [h3] at h31; cases h31; done))]
      exact ⟨none, 0, (by first | rfl | simp only [List.length_set]), V.Row.nil, HG⟩
     ·
      try replace h31 := V.dec h31
      try simp only [V.mk0, V.mk1, V.mk2, V.mk3] at h31
      refine V.skip ?_
      refine V.tN ?_
      refine V.seq ?_
      refine V.region ?_
      refine V.loadO T_ok F393 rfl rfl rfl rfl rfl ?_
      refine V.storeO Fk2 rfl rfl rfl rfl sz33 rfl rfl rfl rfl ?_
      rintro w429 G430 z432 Fs431
      clear Fk2
      have z433 := V.Fr.size G430
      first | replace F_b := F_b.mb G430 hD_b | clear F_b | skip
      first | replace Fk43 := Fk43.mv1 G430 (by omega) | clear Fk43 | skip
      first | replace F52 := F52.mv1 G430 (by omega) | clear F52 | skip
      first | replace Fk186 := Fk186.mv1 G430 (by omega) | clear Fk186 | skip
      first | replace F315 := F315.mv1 G430 (by omega) | clear F315 | skip
      first | replace rF9 := rF9.ma G430 | clear rF9 | skip
      first | replace F391 := F391.mv1 G430 (by first | exact ⟨by omega, by assumption⟩ | exact ⟨by omega, fun h => absurd h.1 (by assumption)⟩ | exact ⟨by omega, fun h => absurd h.1.1 (by assumption)⟩ | exact ⟨by omega, fun h => by first | (have h2 := h.1; have h3 := h.2; omega) | (have h2 := h; dsimp only at h2; omega)⟩ | first | omega | exact fun h => h | exact ⟨by omega, fun h => h⟩ | (intro h; first | (have := hD_b _ h; omega)) | (refine ⟨by omega, ?_⟩; intro h; first | (have := hD_b _ h; omega))) | clear F391 | skip
      first | replace F392 := F392.mv1 G430 (by omega) | clear F392 | skip
      first | replace F393 := F393.mv1 G430 (by omega) | clear F393 | skip
      replace HG := HG.n1 G430
      clear G430
      have Fk2 := Fs431; clear Fs431
      simp only [V.spliceL, V.cellsL] at Fk2
      refine V.run T_ok 1 rfl ?_
      refine V.nil ?_
      refine V.tN ?_
      refine V.ret ?_
      refine V.done2 rfl (V.resV_cell T_ok Fk2 rfl rfl) (V.resV_tmp rfl) ?_
      rw [show decC b = some ⟨q1_0, q2_0, q3_0, q4_0, q5_0, q6_0, q7_0, q8_0, q8_1, q9_0, q10_0, q11_0, q12_0, q13_0, q14_0, q14_1, q15_0, q15_1, q16_0, q17_0, acc, pr⟩ from decC_yes hR2 (by exact g31_4) (by by_cases hd : dE = []; exact hd; rw [if_neg hd] at g31_12; cases g31_12) (by exact h31)]
      exact ⟨ra9, rc9, (by first | rfl | simp only [List.length_set]), rF9.re, HG⟩
 ·
  try replace g23_2 := V.dec g23_2
  try simp only [V.mk0, V.mk1, V.mk2, V.mk3] at g23_2
  refine V.run T_ok 6 rfl ?_
  refine V.nil ?_
  refine V.tN ?_
  refine V.condN rfl rfl ?_
  refine V.exit ?_
  refine V.tX ?_
  refine V.tX ?_
  refine V.bE ?_
  refine V.tN ?_
  refine V.seq ?_
  refine V.region ?_
  refine V.run T_ok 2 rfl ?_
  refine V.call (tk_number (Ft := F314) (FX := F313) (Fx := rFk9) (off := 21) (hle := rfl) (n1 := by omega) (n2 := by omega) (n3 := by omega) (n4 := (by intro h; have := h.1; have := h.2; omega)) (n5 := (by intro h; have := h.1; have := h.2; omega))) rfl rfl rfl ?_
  rintro _ w437 ⟨rfl, F434, F435, F436, G438⟩
  obtain ⟨w439, G440, G441⟩ := V.Fr.cut G438
  clear G438
  have z442 := V.Fr.size G440
  first | replace F_b := F_b.mb G440 hD_b | clear F_b | skip
  first | replace Fk2 := Fk2.mv1 G440 (by omega) | clear Fk2 | skip
  first | replace Fk43 := Fk43.mv1 G440 (by omega) | clear Fk43 | skip
  first | replace F52 := F52.mv1 G440 (by omega) | clear F52 | skip
  first | replace Fk186 := Fk186.mv1 G440 (by omega) | clear Fk186 | skip
  first | replace F313 := F313.mv1 G440 (by first | exact ⟨by omega, by assumption⟩ | exact ⟨by omega, fun h => absurd h.1 (by assumption)⟩ | exact ⟨by omega, fun h => absurd h.1.1 (by assumption)⟩ | exact ⟨by omega, fun h => by first | (have h2 := h.1; have h3 := h.2; omega) | (have h2 := h; dsimp only at h2; omega)⟩ | first | omega | exact fun h => h | exact ⟨by omega, fun h => h⟩ | (intro h; first | (have := hD_b _ h; omega)) | (refine ⟨by omega, ?_⟩; intro h; first | (have := hD_b _ h; omega))) | clear F313 | skip
  first | replace F314 := F314.mv1 G440 (by omega) | clear F314 | skip
  first | replace F315 := F315.mv1 G440 (by omega) | clear F315 | skip
  first | replace rFk9 := rFk9.mv1 G440 (by omega) | clear rFk9 | skip
  first | replace rF9 := rF9.ma G440 | clear rF9 | skip
  replace HG := HG.n1 G440
  clear G440
  obtain ⟨w443, G444, G445⟩ := V.Fr.two G441
  clear G441
  have z446 := V.Fr.size G444
  first | replace F_b := F_b.mb G444 hD_b | clear F_b | skip
  first | replace Fk2 := Fk2.mv1 G444 (by omega) | clear Fk2 | skip
  first | replace Fk43 := Fk43.mv1 G444 (by omega) | clear Fk43 | skip
  first | replace F52 := F52.mv1 G444 (by omega) | clear F52 | skip
  first | replace Fk186 := Fk186.mv1 G444 (by omega) | clear Fk186 | skip
  first | replace F313 := F313.mv1 G444 (by first | exact ⟨by omega, by assumption⟩ | exact ⟨by omega, fun h => absurd h.1 (by assumption)⟩ | exact ⟨by omega, fun h => absurd h.1.1 (by assumption)⟩ | exact ⟨by omega, fun h => by first | (have h2 := h.1; have h3 := h.2; omega) | (have h2 := h; dsimp only at h2; omega)⟩ | first | omega | exact fun h => h | exact ⟨by omega, fun h => h⟩ | (intro h; first | (have := hD_b _ h; omega)) | (refine ⟨by omega, ?_⟩; intro h; first | (have := hD_b _ h; omega))) | clear F313 | skip
  first | replace F314 := F314.mv1 G444 (by omega) | clear F314 | skip
  first | replace F315 := F315.mv1 G444 (by omega) | clear F315 | skip
  first | replace rFk9 := rFk9.mv1 G444 (by omega) | clear rFk9 | skip
  first | replace rF9 := rF9.ma G444 | clear rF9 | skip
  replace HG := HG.n1 G444
  clear G444
  have z447 := V.Fr.size G445
  first | replace F_b := F_b.mb G445 hD_b | clear F_b | skip
  first | replace Fk2 := Fk2.mv1 G445 (by omega) | clear Fk2 | skip
  first | replace Fk43 := Fk43.mv1 G445 (by omega) | clear Fk43 | skip
  first | replace F52 := F52.mv1 G445 (by omega) | clear F52 | skip
  first | replace Fk186 := Fk186.mv1 G445 (by omega) | clear Fk186 | skip
  first | replace F313 := F313.mv1 G445 (by first | exact ⟨by omega, by assumption⟩ | exact ⟨by omega, fun h => absurd h.1 (by assumption)⟩ | exact ⟨by omega, fun h => absurd h.1.1 (by assumption)⟩ | exact ⟨by omega, fun h => by first | (have h2 := h.1; have h3 := h.2; omega) | (have h2 := h; dsimp only at h2; omega)⟩ | first | omega | exact fun h => h | exact ⟨by omega, fun h => h⟩ | (intro h; first | (have := hD_b _ h; omega)) | (refine ⟨by omega, ?_⟩; intro h; first | (have := hD_b _ h; omega))) | clear F313 | skip
  first | replace F314 := F314.mv1 G445 (by omega) | clear F314 | skip
  first | replace F315 := F315.mv1 G445 (by omega) | clear F315 | skip
  first | replace rFk9 := rFk9.mv1 G445 (by omega) | clear rFk9 | skip
  first | replace rF9 := rF9.ma G445 | clear rF9 | skip
  replace HG := HG.n1 G445
  clear G445
  simp only [V.spliceL, V.cellsL] at F436
  refine V.nil ?_
  refine V.tN ?_
  refine V.seq ?_
  refine V.seq ?_
  have hR2 : decAll b = ((⟨q1_0, q2_0, q3_0, q4_0, q5_0, q6_0, q7_0, q8_0, q8_1, q9_0, q10_0, q11_0, q12_0, q13_0, q14_0, q14_1, q15_0, q15_1, q16_0, q17_0, acc, (rdN cur 1099511627776).1.1⟩ : CmdV), bd || decide (¬ (rdN cur 1099511627776).1.2 = 0), (rdN cur 1099511627776).2) := by
   rw [hR, ← hinv, wrL_end (by intro hq; first | exact g23_2 hq.1 | (have := hq.1; omega) | exact h23 hq.2 | (rw [hq.2] at h23; cases h23))]; rfl
  clear hR hinv
  generalize (rdN cur 1099511627776).1.1 = pr at F436 hR2
  generalize (bd || decide (¬ (rdN cur 1099511627776).1.2 = 0)) = bE at F435 hR2
  generalize (rdN cur 1099511627776).2 = dE at F434 hR2
  refine V.region ?_
  refine V.loadO T_ok F52 rfl rfl rfl rfl rfl ?_
  refine V.run T_ok 1 rfl ?_
  refine V.storeO F436 rfl rfl rfl rfl sz24 rfl rfl rfl rfl ?_
  rintro w448 G449 z451 Fs450
  clear F436
  have z452 := V.Fr.size G449
  first | replace F_b := F_b.mb G449 hD_b | clear F_b | skip
  first | replace Fk2 := Fk2.mv1 G449 (by omega) | clear Fk2 | skip
  first | replace Fk43 := Fk43.mv1 G449 (by omega) | clear Fk43 | skip
  first | replace F52 := F52.mv1 G449 (by omega) | clear F52 | skip
  first | replace Fk186 := Fk186.mv1 G449 (by omega) | clear Fk186 | skip
  first | replace F315 := F315.mv1 G449 (by omega) | clear F315 | skip
  first | replace rF9 := rF9.ma G449 | clear rF9 | skip
  first | replace F434 := F434.mv1 G449 (by first | exact ⟨by omega, by assumption⟩ | exact ⟨by omega, fun h => absurd h.1 (by assumption)⟩ | exact ⟨by omega, fun h => absurd h.1.1 (by assumption)⟩ | exact ⟨by omega, fun h => by first | (have h2 := h.1; have h3 := h.2; omega) | (have h2 := h; dsimp only at h2; omega)⟩ | first | omega | exact fun h => h | exact ⟨by omega, fun h => h⟩ | (intro h; first | (have := hD_b _ h; omega)) | (refine ⟨by omega, ?_⟩; intro h; first | (have := hD_b _ h; omega))) | clear F434 | skip
  first | replace F435 := F435.mv1 G449 (by omega) | clear F435 | skip
  replace HG := HG.n1 G449
  clear G449
  have F436 := Fs450; clear Fs450
  simp only [V.spliceL, V.cellsL] at F436
  refine V.nil ?_
  refine V.tN ?_
  refine V.seq ?_
  refine V.region ?_
  refine V.run T_ok 3 rfl ?_
  refine V.loadO T_ok F435 rfl rfl rfl rfl rfl ?_
  refine V.run T_ok 1 rfl ?_
  refine V.split (j := 4) (t := 109) rfl rfl (fun g31_4 => ?_) (fun g31_4 => ?_)
  ·
   try replace g31_4 := V.dec g31_4
   try simp only [V.mk0, V.mk1, V.mk2, V.mk3] at g31_4
   refine V.run T_ok 12 rfl ?_
   refine V.nil ?_
   refine V.tN ?_
   refine V.condY rfl rfl ?_
   refine V.seq ?_
   refine V.region ?_
   refine V.mkStruct T_ok zero33 rfl rfl rfl rfl rfl ?_
   refine V.storeO Fk2 rfl rfl rfl rfl sz33 rfl rfl rfl rfl ?_
   rintro w453 G454 z456 Fs455
   clear Fk2
   have z457 := V.Fr.size G454
   first | replace F_b := F_b.mb G454 hD_b | clear F_b | skip
   first | replace Fk43 := Fk43.mv1 G454 (by omega) | clear Fk43 | skip
   first | replace F52 := F52.mv1 G454 (by omega) | clear F52 | skip
   first | replace Fk186 := Fk186.mv1 G454 (by omega) | clear Fk186 | skip
   first | replace F315 := F315.mv1 G454 (by omega) | clear F315 | skip
   first | replace rF9 := rF9.ma G454 | clear rF9 | skip
   first | replace F434 := F434.mv1 G454 (by first | exact ⟨by omega, by assumption⟩ | exact ⟨by omega, fun h => absurd h.1 (by assumption)⟩ | exact ⟨by omega, fun h => absurd h.1.1 (by assumption)⟩ | exact ⟨by omega, fun h => by first | (have h2 := h.1; have h3 := h.2; omega) | (have h2 := h; dsimp only at h2; omega)⟩ | first | omega | exact fun h => h | exact ⟨by omega, fun h => h⟩ | (intro h; first | (have := hD_b _ h; omega)) | (refine ⟨by omega, ?_⟩; intro h; first | (have := hD_b _ h; omega))) | clear F434 | skip
   first | replace F435 := F435.mv1 G454 (by omega) | clear F435 | skip
   first | replace F436 := F436.mv1 G454 (by omega) | clear F436 | skip
   replace HG := HG.n1 G454
   clear G454
   have Fk2 := Fs455; clear Fs455
   simp only [V.spliceL, V.cellsL] at Fk2
   refine V.run T_ok 1 rfl ?_
   refine V.nil ?_
   refine V.tN ?_
   refine V.ret ?_
   refine V.tR ?_
   refine V.done2 rfl (V.resV_cell T_ok Fk2 rfl rfl) (V.resV_tmp rfl) ?_
   rw [show decC b = none from decC_no hR2 (by rintro ⟨h1, h2, h3⟩; first | (rw [h1] at g31_4; cases g31_4; done) | exact g31_12 (if_pos h2) | (rw [h3] at h31; cases h31; done))]
   exact ⟨none, 0, (by first | rfl | simp only [List.length_set]), V.Row.nil, HG⟩
  ·
   try replace g31_4 := V.dec g31_4
   try simp only [V.mk0, V.mk1, V.mk2, V.mk3] at g31_4
   refine V.run T_ok 3 rfl ?_
   refine V.yes rfl rfl rfl ?_
   refine V.loadO T_ok F435 rfl rfl rfl rfl rfl ?_
   refine V.yes rfl rfl rfl ?_
   refine V.call (rd_end F434) rfl rfl rfl ?_
   rintro _ w448_ ⟨rfl, rfl⟩
   refine V.run T_ok 3 rfl ?_
   refine V.split (j := 12) (t := 117) rfl rfl (fun g31_12 => ?_) (fun g31_12 => ?_)
   ·
    try replace g31_12 := V.dec g31_12
    try simp only [V.mk0, V.mk1, V.mk2, V.mk3] at g31_12
    refine V.run T_ok 4 rfl ?_
    refine V.nil ?_
    refine V.tN ?_
    refine V.condY rfl rfl ?_
    refine V.seq ?_
    refine V.region ?_
    refine V.mkStruct T_ok zero33 rfl rfl rfl rfl rfl ?_
    refine V.storeO Fk2 rfl rfl rfl rfl sz33 rfl rfl rfl rfl ?_
    rintro w459 G460 z462 Fs461
    clear Fk2
    have z463 := V.Fr.size G460
    first | replace F_b := F_b.mb G460 hD_b | clear F_b | skip
    first | replace Fk43 := Fk43.mv1 G460 (by omega) | clear Fk43 | skip
    first | replace F52 := F52.mv1 G460 (by omega) | clear F52 | skip
    first | replace Fk186 := Fk186.mv1 G460 (by omega) | clear Fk186 | skip
    first | replace F315 := F315.mv1 G460 (by omega) | clear F315 | skip
    first | replace rF9 := rF9.ma G460 | clear rF9 | skip
    first | replace F434 := F434.mv1 G460 (by first | exact ⟨by omega, by assumption⟩ | exact ⟨by omega, fun h => absurd h.1 (by assumption)⟩ | exact ⟨by omega, fun h => absurd h.1.1 (by assumption)⟩ | exact ⟨by omega, fun h => by first | (have h2 := h.1; have h3 := h.2; omega) | (have h2 := h; dsimp only at h2; omega)⟩ | first | omega | exact fun h => h | exact ⟨by omega, fun h => h⟩ | (intro h; first | (have := hD_b _ h; omega)) | (refine ⟨by omega, ?_⟩; intro h; first | (have := hD_b _ h; omega))) | clear F434 | skip
    first | replace F435 := F435.mv1 G460 (by omega) | clear F435 | skip
    first | replace F436 := F436.mv1 G460 (by omega) | clear F436 | skip
    replace HG := HG.n1 G460
    clear G460
    have Fk2 := Fs461; clear Fs461
    simp only [V.spliceL, V.cellsL] at Fk2
    refine V.run T_ok 1 rfl ?_
    refine V.nil ?_
    refine V.tN ?_
    refine V.ret ?_
    refine V.tR ?_
    refine V.done2 rfl (V.resV_cell T_ok Fk2 rfl rfl) (V.resV_tmp rfl) ?_
    rw [show decC b = none from decC_no hR2 (by rintro ⟨h1, h2, h3⟩; first | (rw [h1] at g31_4; cases g31_4; done) | exact g31_12 (if_pos h2) | (rw [h3] at h31; cases h31; done))]
    exact ⟨none, 0, (by first | rfl | simp only [List.length_set]), V.Row.nil, HG⟩
   ·
    try replace g31_12 := V.dec g31_12
    try simp only [V.mk0, V.mk1, V.mk2, V.mk3] at g31_12
    refine V.yes rfl rfl rfl ?_
    have hsz : SzOk (⟨q1_0, q2_0, q3_0, q4_0, q5_0, q6_0, q7_0, q8_0, q8_1, q9_0, q10_0, q11_0, q12_0, q13_0, q14_0, q14_1, q15_0, q15_1, q16_0, q17_0, acc, pr⟩ : CmdV) := ⟨by assumption, by assumption, by assumption, by assumption, htx⟩
    refine V.loadO T_ok F436 rfl rfl rfl rfl rfl ?_
    refine V.yes rfl rfl rfl ?_
    refine V.call (cright_spec (d := (⟨q1_0, q2_0, q3_0, q4_0, q5_0, q6_0, q7_0, q8_0, q8_1, q9_0, q10_0, q11_0, q12_0, q13_0, q14_0, q14_1, q15_0, q15_1, q16_0, q17_0, acc, pr⟩ : CmdV)) rF9.sl (fun k hk => by have := hk.2; omega) (by first | assumption | exact hz | (constructor <;> first | exact hz.an | exact hz.fr | exact hz.to | exact hz.va | exact hz.ws | exact (by decide : (S []).size ≤ 9223372036854775807) | exact (fun x hx => nomatch (show x ∈ ([] : List (ByteArray × Int)) from hx))))) rfl rfl rfl ?_
    rintro _ w464 ⟨rfl, G465⟩
    have z466 := V.Fr.size G465
    try replace F_b := F_b.gr G465
    try replace Fk2 := Fk2.gr G465
    try replace Fk43 := Fk43.gr G465
    try replace F52 := F52.gr G465
    try replace Fk186 := Fk186.gr G465
    try replace F315 := F315.gr G465
    try replace rF9 := rF9.gr G465
    try replace F434 := F434.gr G465
    try replace F435 := F435.gr G465
    try replace F436 := F436.gr G465
    replace HG := HG.grow G465
    clear G465
    refine V.run T_ok 2 rfl ?_
    refine V.nil ?_
    refine V.tN ?_
    refine V.condT rfl (fun h31 => ?_) (fun h31 => ?_)
    ·
     try replace h31 := V.dec h31
     try simp only [V.mk0, V.mk1, V.mk2, V.mk3] at h31
     refine V.seq ?_
     refine V.region ?_
     refine V.mkStruct T_ok zero33 rfl rfl rfl rfl rfl ?_
     refine V.storeO Fk2 rfl rfl rfl rfl sz33 rfl rfl rfl rfl ?_
     rintro w467 G468 z470 Fs469
     clear Fk2
     have z471 := V.Fr.size G468
     first | replace F_b := F_b.mb G468 hD_b | clear F_b | skip
     first | replace Fk43 := Fk43.mv1 G468 (by omega) | clear Fk43 | skip
     first | replace F52 := F52.mv1 G468 (by omega) | clear F52 | skip
     first | replace Fk186 := Fk186.mv1 G468 (by omega) | clear Fk186 | skip
     first | replace F315 := F315.mv1 G468 (by omega) | clear F315 | skip
     first | replace rF9 := rF9.ma G468 | clear rF9 | skip
     first | replace F434 := F434.mv1 G468 (by first | exact ⟨by omega, by assumption⟩ | exact ⟨by omega, fun h => absurd h.1 (by assumption)⟩ | exact ⟨by omega, fun h => absurd h.1.1 (by assumption)⟩ | exact ⟨by omega, fun h => by first | (have h2 := h.1; have h3 := h.2; omega) | (have h2 := h; dsimp only at h2; omega)⟩ | first | omega | exact fun h => h | exact ⟨by omega, fun h => h⟩ | (intro h; first | (have := hD_b _ h; omega)) | (refine ⟨by omega, ?_⟩; intro h; first | (have := hD_b _ h; omega))) | clear F434 | skip
     first | replace F435 := F435.mv1 G468 (by omega) | clear F435 | skip
     first | replace F436 := F436.mv1 G468 (by omega) | clear F436 | skip
     replace HG := HG.n1 G468
     clear G468
     have Fk2 := Fs469; clear Fs469
     simp only [V.spliceL, V.cellsL] at Fk2
     refine V.run T_ok 1 rfl ?_
     refine V.nil ?_
     refine V.tN ?_
     refine V.ret ?_
     refine V.tR ?_
     refine V.done2 rfl (V.resV_cell T_ok Fk2 rfl rfl) (V.resV_tmp rfl) ?_
     rw [show decC b = none from decC_no hR2 (by rintro ⟨h1, h2, h3⟩; first | (rw [h1] at g31_4; cases g31_4; done) | exact g31_12 (if_pos h2) | (rw [h3] at h31; cases h31; done))]
     exact ⟨none, 0, (by first | rfl | simp only [List.length_set]), V.Row.nil, HG⟩
    ·
     try replace h31 := V.dec h31
     try simp only [V.mk0, V.mk1, V.mk2, V.mk3] at h31
     refine V.skip ?_
     refine V.tN ?_
     refine V.seq ?_
     refine V.region ?_
     refine V.loadO T_ok F436 rfl rfl rfl rfl rfl ?_
     refine V.storeO Fk2 rfl rfl rfl rfl sz33 rfl rfl rfl rfl ?_
     rintro w472 G473 z475 Fs474
     clear Fk2
     have z476 := V.Fr.size G473
     first | replace F_b := F_b.mb G473 hD_b | clear F_b | skip
     first | replace Fk43 := Fk43.mv1 G473 (by omega) | clear Fk43 | skip
     first | replace F52 := F52.mv1 G473 (by omega) | clear F52 | skip
     first | replace Fk186 := Fk186.mv1 G473 (by omega) | clear Fk186 | skip
     first | replace F315 := F315.mv1 G473 (by omega) | clear F315 | skip
     first | replace rF9 := rF9.ma G473 | clear rF9 | skip
     first | replace F434 := F434.mv1 G473 (by first | exact ⟨by omega, by assumption⟩ | exact ⟨by omega, fun h => absurd h.1 (by assumption)⟩ | exact ⟨by omega, fun h => absurd h.1.1 (by assumption)⟩ | exact ⟨by omega, fun h => by first | (have h2 := h.1; have h3 := h.2; omega) | (have h2 := h; dsimp only at h2; omega)⟩ | first | omega | exact fun h => h | exact ⟨by omega, fun h => h⟩ | (intro h; first | (have := hD_b _ h; omega)) | (refine ⟨by omega, ?_⟩; intro h; first | (have := hD_b _ h; omega))) | clear F434 | skip
     first | replace F435 := F435.mv1 G473 (by omega) | clear F435 | skip
     first | replace F436 := F436.mv1 G473 (by omega) | clear F436 | skip
     replace HG := HG.n1 G473
     clear G473
     have Fk2 := Fs474; clear Fs474
     simp only [V.spliceL, V.cellsL] at Fk2
     refine V.run T_ok 1 rfl ?_
     refine V.nil ?_
     refine V.tN ?_
     refine V.ret ?_
     refine V.done2 rfl (V.resV_cell T_ok Fk2 rfl rfl) (V.resV_tmp rfl) ?_
     rw [show decC b = some ⟨q1_0, q2_0, q3_0, q4_0, q5_0, q6_0, q7_0, q8_0, q8_1, q9_0, q10_0, q11_0, q12_0, q13_0, q14_0, q14_1, q15_0, q15_1, q16_0, q17_0, acc, pr⟩ from decC_yes hR2 (by exact g31_4) (by by_cases hd : dE = []; exact hd; rw [if_neg hd] at g31_12; cases g31_12) (by exact h31)]
     exact ⟨ra9, rc9, (by first | rfl | simp only [List.length_set]), rF9.re, HG⟩

end Go.Proofs.Ytkklebdlbmoogaa
