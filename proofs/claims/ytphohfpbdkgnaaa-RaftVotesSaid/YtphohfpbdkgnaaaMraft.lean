/- Proved here: walks: what functions of this seat's program return and what they leave of memory, each as a contract. Conditions: stated at each theorem. -/
import Derived.Test.YtphohfpbdkgnaaaMent
namespace Go.Proofs.Ytphohfpbdkgnaaa
set_option linter.unusedVariables false
set_option linter.unusedSimpArgs false
open Go
open V (Bytes Meets Env Sl Own Gr Fr Cells S)
/-! ### A node, in plain words -/
/-- a message of the log's: what it has beside commands and results -/
structure RMsg where
  kd : Int
  fr : Int
  to : Int
  rg : Int
  te : Int
  ix : Int
  lt : Int
  co : Int
  ok : Bool
  es : List (Int × List UInt8)
  da : List UInt8
/-- a node: what it is, its log, whom it heard, what it told; nc: it kept no more changes than these -/
structure NodeV where
  id : Int
  rg : Int
  te : Int
  vo : Int
  ro : Int
  le : Int
  L : LogV
  co : Int
  da : List UInt8
  v0 : Bool
  v1 : Bool
  v2 : Bool
  x0 : Int
  x1 : Int
  x2 : Int
  m0 : Int
  m1 : Int
  m2 : Int
  out : List RMsg
  nc : Nat
def tellV (d : NodeV) (to : Int) (m : RMsg) : NodeV := { d with out := d.out ++ [⟨m.kd, d.id, to, d.rg, d.te, m.ix, m.lt, m.co, m.ok, m.es, m.da⟩] }
def keepV (d : NodeV) : NodeV := { d with nc := d.nc + 1 }
def turnV (d : NodeV) (te ro le : Int) : NodeV := { d with te := te, ro := ro, le := le }
def getX (d : NodeV) (k : Int) : Int := if k = 0 then d.x0 else if k = 1 then d.x1 else d.x2
def getM (d : NodeV) (k : Int) : Int := if k = 0 then d.m0 else if k = 1 then d.m1 else d.m2
def setX (d : NodeV) (k v : Int) : NodeV := { d with x0 := if k = 0 then v else d.x0, x1 := if k = 1 then v else d.x1, x2 := if k = 2 then v else d.x2 }
def setM (d : NodeV) (k v : Int) : NodeV := { d with m0 := if k = 0 then v else d.m0, m1 := if k = 1 then v else d.m1, m2 := if k = 2 then v else d.m2 }
def setV (d : NodeV) (k : Int) : NodeV := { d with v0 := if k = 0 then true else d.v0, v1 := if k = 1 then true else d.v1, v2 := if k = 2 then true else d.v2 }
def sendV (d : NodeV) (to : Int) : NodeV :=
  if getX d to - 1 < d.L.base then tellV d to ⟨5, 0, 0, 0, 0, d.L.base, d.L.term, 0, false, [], d.da⟩
  else tellV d to ⟨3, 0, 0, 0, 0, getX d to - 1, trmV d.L (getX d to - 1), d.co, false, fromV d.L (getX d to - 1 + 1) 8, []⟩
/-- something done for each other node -/
def othV (f : NodeV → Int → NodeV) (d : NodeV) : Nat → NodeV
  | 0 => d
  | i + 1 => if (i : Int) = (othV f d i).id then othV f d i else f (othV f d i) i
def askV (d : NodeV) (k : Int) (i t : Int) : NodeV := tellV d k ⟨1, 0, 0, 0, 0, i, t, 0, false, [], []⟩
def standV (d : NodeV) : NodeV := { turnV d (d.te + 1) 1 (-1) with vo := d.id, v0 := decide (d.id = 0), v1 := decide (d.id = 1), v2 := decide (d.id = 2) }
def electE (d : NodeV) : Int := if d.ro = 2 then 223 else if 1099511627776 ≤ d.te then 1 else 0
def electV (d : NodeV) : NodeV := if d.ro = 2 ∨ 1099511627776 ≤ d.te then d else othV (fun e k => askV e k (lastI d.L) (lastT d.L)) (standV d) 3
def moreV (d : NodeV) (x : List UInt8) : NodeV := if appOk d.L d.te x then { d with L := appV d.L d.te x, nc := d.nc + 1 } else d
def propV (d : NodeV) (x : List UInt8) : NodeV := if d.ro = 2 then (if appOk d.L d.te x then othV sendV (moreV d x) 3 else d) else d
def propE (d : NodeV) (x : List UInt8) : Int := if d.ro = 2 then (if appOk d.L d.te x then 0 else 151) else 161
def propI (d : NodeV) (x : List UInt8) : Int := if d.ro = 2 ∧ appOk d.L d.te x then lastI d.L + 1 else 0
def propT (d : NodeV) (x : List UInt8) : Int := if d.ro = 2 ∧ appOk d.L d.te x then (othV sendV (moreV d x) 3).te else 0
def comOk (d : NodeV) (i : Int) : Prop := d.L.base < i ∧ i ≤ d.co ∧ isV d.L i = true
instance (d : NodeV) (i : Int) : Decidable (comOk d i) := by unfold comOk; infer_instance
def nmB (n : Int) : Bool := decide (0 ≤ n ∧ n ≤ 1099511627776)
def rightV (d : NodeV) (m : RMsg) : Bool := (decide (m.to = d.id) && decide (¬ m.fr = d.id) && decide (0 ≤ m.fr) && decide (m.fr < 3) && decide (m.rg = d.rg)) && decide (1 ≤ m.kd) && decide (m.kd ≤ 5) && nmB m.te && nmB m.ix && nmB m.lt && nmB m.co
def askedOk (d : NodeV) (m : RMsg) : Bool := decide (m.te = d.te) && (decide (d.vo = -1) || decide (d.vo = m.fr)) && behV d.L m.ix m.lt
def askedV (d : NodeV) (m : RMsg) : NodeV := tellV (if askedOk d m = true then { d with vo := m.fr } else d) m.fr ⟨2, 0, 0, 0, 0, 0, 0, 0, askedOk d m, [], []⟩
def cntV (d : NodeV) : Int := (if d.v0 then 1 else 0) + (if d.v1 then 1 else 0) + (if d.v2 then 1 else 0)
def leadV (d : NodeV) : NodeV := { turnV d d.te 2 d.id with x0 := lastI d.L + 1, x1 := lastI d.L + 1, x2 := lastI d.L + 1, m0 := 0, m1 := 0, m2 := 0 }
def votedV (d : NodeV) (m : RMsg) : NodeV :=
  if m.te = d.te ∧ d.ro = 1 ∧ m.ok = true then (if cntV (setV d m.fr) < 2 then setV d m.fr else othV sendV (moreV (leadV (setV d m.fr)) []) 3) else d
def oldB (d : NodeV) (m : RMsg) : Bool := decide (m.te < d.te)
def oldV (d : NodeV) (m : RMsg) : NodeV := if d.te ≤ m.te then turnV d d.te 0 m.fr else tellV d m.fr ⟨4, 0, 0, 0, 0, 0, 0, 0, false, [], []⟩
def apnV (d : NodeV) (m : RMsg) : NodeV :=
  if m.te < d.te then oldV d m
  else if splOk d.L m.ix m.lt = true then
    tellV { turnV d d.te 0 m.fr with L := splV d.L m.ix m.lt m.es, nc := if 0 < splI d.L m.ix m.lt m.es then d.nc + 1 + (lastI (splV d.L m.ix m.lt m.es) - splI d.L m.ix m.lt m.es + 1).toNat else d.nc, co := max d.co (min m.co (m.ix + m.es.length)) } m.fr
      ⟨4, 0, 0, 0, 0, m.ix + m.es.length, 0, 0, true, [], []⟩
  else tellV (turnV d d.te 0 m.fr) m.fr ⟨4, 0, 0, 0, 0, max (min (m.ix - 1) (lastI d.L)) 0, 0, 0, false, [], []⟩
def elseV (d : NodeV) (i : Int) : Nat → Bool
  | 0 => false
  | k + 1 => if (k : Int) = d.id then elseV d i k else elseV d i k || decide (i ≤ getM d k)
def hadV (d : NodeV) (i : Int) : Bool := (isV d.L i && decide (trmV d.L i = d.te)) && elseV d i 3
/-- the commit index out of n that may be more -/
def comF (d : NodeV) : Nat → Int
  | 0 => d.co
  | n + 1 => if hadV d (d.co + n + 1) = true then d.co + n + 1 else comF d n
def apd2 (d : NodeV) (m : RMsg) : NodeV := setX (setM d m.fr (max (getM d m.fr) (min m.ix (lastI d.L)))) m.fr (max (getM d m.fr) (min m.ix (lastI d.L)) + 1)
def apd3 (d : NodeV) (m : RMsg) : NodeV := { apd2 d m with co := comF (apd2 d m) (lastI d.L - d.co).toNat }
def apdV (d : NodeV) (m : RMsg) : NodeV :=
  if m.te = d.te ∧ d.ro = 2 then
    if m.ok = true then (if getX (apd3 d m) m.fr ≤ lastI d.L then sendV (apd3 d m) m.fr else apd3 d m)
    else sendV (setX d m.fr (max (min (getX d m.fr - 1) (m.ix + 1)) 1)) m.fr
  else d
def snpV (d : NodeV) (m : RMsg) : NodeV :=
  if m.te < d.te then oldV d m
  else if m.ix ≤ d.co then tellV (turnV d d.te 0 m.fr) m.fr ⟨4, 0, 0, 0, 0, d.co, 0, 0, true, [], []⟩
  else tellV { turnV d d.te 0 m.fr with L := if isV d.L m.ix = true ∧ trmV d.L m.ix = m.lt then cmpV d.L m.ix else ⟨m.ix, m.lt, []⟩, nc := if isV d.L m.ix = true ∧ trmV d.L m.ix = m.lt then d.nc + 1 else d.nc + 2, da := m.da, co := m.ix } m.fr ⟨4, 0, 0, 0, 0, m.ix, 0, 0, true, [], []⟩
def riseV (d : NodeV) (m : RMsg) : NodeV := if d.te < m.te then { turnV d m.te 0 (-1) with vo := -1 } else d
def stepV (d : NodeV) (m : RMsg) : NodeV :=
  if rightV d m = true then
    (if m.kd = 1 then askedV (riseV d m) m else if m.kd = 2 then votedV (riseV d m) m else if m.kd = 3 then apnV (riseV d m) m else if m.kd = 4 then apdV (riseV d m) m else snpV (riseV d m) m)
  else d
/-- what a node's numbers are held to -/
structure NOk (d : NodeV) : Prop where
  id : 0 ≤ d.id ∧ d.id ≤ 2
  rg : 0 ≤ d.rg ∧ d.rg ≤ 3
  te : 0 ≤ d.te ∧ d.te ≤ 1099511627776
  co : 0 ≤ d.co ∧ d.co ≤ 2199023255552
  x0 : -1 ≤ d.x0 ∧ d.x0 ≤ 2199023255553
  x1 : -1 ≤ d.x1 ∧ d.x1 ≤ 2199023255553
  x2 : -1 ≤ d.x2 ∧ d.x2 ≤ 2199023255553
  m0 : 0 ≤ d.m0 ∧ d.m0 ≤ 2199023255552
  m1 : 0 ≤ d.m1 ∧ d.m1 ≤ 2199023255552
  m2 : 0 ≤ d.m2 ∧ d.m2 ≤ 2199023255552
  da : d.da.length ≤ 1000000
/-- a change that is kept: kind, index, term, entry, data -/
abbrev Chg := Int × Int × Int × (Int × List UInt8) × List UInt8


abbrev V.Cod.chg : V.Cod Chg := (V.Cod.pair (V.Cod.int .i64) (V.Cod.pair (V.Cod.int .i64) (V.Cod.pair (V.Cod.int .i64) (V.Cod.pair V.Cod.ent V.Cod.byte.sl))))


def V.Cod.rmsg : V.Cod RMsg where
  sz := 53
  R := fun w D m cs => ∃ (a1 : Option Addr) (c1 : Nat) (a2 : Option Addr) (c2 : Nat), cs = [.int .i64 m.kd, .int .i64 m.fr, .int .i64 m.to, .int .i64 m.rg, .int .i64 m.te, .int .i64 m.ix, .int .i64 m.lt, .int .i64 m.co, .bool m.ok, .slice a1 m.es.length c1, .slice a2 m.da.length c2, .int .i64 0, .int .i64 0, .int .i64 0, .int .i64 0, .int .i64 0, .int .i64 0, .int .i64 0, .int .i64 0, .string ByteArray.empty, .int .i64 0, .int .i64 0, .int .i64 0, .string ByteArray.empty, .string ByteArray.empty, .string ByteArray.empty, .bool false, .int .i64 0, .int .i64 0, .int .i64 0, .int .i64 0, .bool false, .bool false, .slice none 0 0, .int .i64 0, .int .i64 0, .int .i64 0, .int .i64 0, .slice none 0 0, .bool false, .int .i64 0, .int .i64 0, .string ByteArray.empty, .int .i64 0, .int .i64 0, .int .i64 0, .int .i64 0, .int .i64 0, .int .i64 0, .int .i64 0, .int .i64 0, .int .i64 0, .slice none 0 0] ∧ Sl V.Cod.ent w D a1 c1 m.es ∧ Sl V.Cod.byte w D a2 c2 m.da
  len := by rintro w D m cs ⟨a1, c1, a2, c2, rfl, -⟩; rfl
  one := by
    rintro w D m cs ⟨a1, c1, a2, c2, rfl, -⟩
    exact List.all_eq_true.1 (by rfl)
  mv := by rintro S w w' D m cs ⟨a1, c1, a2, c2, rfl, h1, h2⟩ f hs; exact ⟨a1, c1, a2, c2, rfl, h1.mv f hs, h2.mv f hs⟩
  mono := by rintro w D D' m cs ⟨a1, c1, a2, c2, rfl, h1, h2⟩ hm; exact ⟨a1, c1, a2, c2, rfl, h1.mono hm, h2.mono hm⟩

/-! ### A node in the heap -/
/-- of which blocks a node is made: k its own, kl and g its log's, SO and SC its rows', M all that it may turn, B and D what is read alone -/
structure NdP (k kl g : Nat) (B SO SC M D : Nat → Prop) (z : Nat) : Prop where
  a : k ≠ kl ∧ k ≠ g
  b : (¬ SO k ∧ ¬ SC k) ∧ (¬ SO kl ∧ ¬ SC kl) ∧ ¬ SO g ∧ ¬ SC g
  c : ∀ j, SO j → ¬ SC j
  m : M k ∧ M kl ∧ M g
  so : ∀ j, SO j → M j
  sc : ∀ j, SC j → M j
  d : ∀ j, B j → D j
  dj : ∀ j, M j → ¬ D j
  lm : ∀ j, M j → j < z
  ld : ∀ j, D j → j < z
structure Nq (w : World) (SO SC D : Nat → Prop) (ad : Option Addr) (cd : Nat) (ao : Option Addr) (co : Nat) (ac : Option Addr) (cc : Nat) (ch : List Chg) (da : List UInt8) (out : List RMsg) : Prop where
  o : V.RowE V.Cod.rmsg 57 w D SO ao co out
  c : V.RowE V.Cod.chg 113 w D SC ac cc ch
  d : Bytes w D ad cd da
structure Nd (w : World) (k : Nat) (M D : Nat → Prop) (d : NodeV) : Prop where
  ok : NOk d
  ex : ∃ (kl g : Nat) (B SO SC : Nat → Prop) (ad : Option Addr) (cd : Nat) (ao : Option Addr) (co : Nat) (ac : Option Addr) (cc : Nat) (ch : List Chg), NdP k kl g B SO SC M D w.heap.size ∧ ch.length ≤ d.nc ∧
    Cells w k [.int .i64 d.id, .int .i64 d.rg, .int .i64 d.te, .int .i64 d.vo, .int .i64 d.ro, .int .i64 d.le, .pointer (some ⟨kl, 0, none⟩), .int .i64 d.co, .slice ad d.da.length cd, .bool d.v0, .bool d.v1, .bool d.v2, .int .i64 d.x0, .int .i64 d.x1, .int .i64 d.x2, .int .i64 d.m0, .int .i64 d.m1, .int .i64 d.m2, .slice ao d.out.length co, .slice ac ch.length cc] 101 ∧ Lg w kl g B d.L ∧ Nq w SO SC D ad cd ao co ac cc ch d.da d.out
section
variable {w w' : World} {k kl g g' : Nat} {B B' SO SC SO' SC' M D D' X : Nat → Prop} {ad : Option Addr} {cd : Nat} {ao : Option Addr} {co : Nat} {ac : Option Addr} {cc : Nat} {ch : List Chg} {da : List UInt8} {out : List RMsg} {d : NodeV} {z z' : Nat}
theorem NdP.up (h : NdP k kl g B SO SC M D z) (hz : z ≤ z') : NdP k kl g B SO SC M D z' := ⟨h.a, h.b, h.c, h.m, h.so, h.sc, h.d, h.dj, fun j hj => Nat.lt_of_lt_of_le (h.lm j hj) hz, fun j hj => Nat.lt_of_lt_of_le (h.ld j hj) hz⟩
theorem NdP.nk (h : NdP k kl g B SO SC M D z) : ¬ (SO k ∨ SC k ∨ D k) := fun e => e.elim h.b.1.1 (fun e => e.elim h.b.1.2 (h.dj _ h.m.1))
theorem NdP.nl (h : NdP k kl g B SO SC M D z) : ¬ (SO kl ∨ SC kl ∨ D kl) := fun e => e.elim h.b.2.1.1 (fun e => e.elim h.b.2.1.2 (h.dj _ h.m.2.1))
theorem NdP.ng (h : NdP k kl g B SO SC M D z) : ¬ (SO g ∨ SC g ∨ D g) := fun e => e.elim h.b.2.2.1 (fun e => e.elim h.b.2.2.2 (h.dj _ h.m.2.2))
theorem NdP.lq (h : NdP k kl g B SO SC M D z) : ∀ j, (SO j ∨ SC j ∨ D j) → j < z := fun j e => e.elim (fun e => h.lm j (h.so j e)) (fun e => e.elim (fun e => h.lm j (h.sc j e)) (h.ld j))
theorem NdP.kL (h : NdP k kl g B SO SC M D z) : ¬ (k = kl ∨ k = g ∨ B k) := fun e => e.elim h.a.1 (fun e => e.elim h.a.2 (fun e => h.dj _ h.m.1 (h.d _ e)))
/-- the log turns -/
theorem NdP.setL (h : NdP k kl g B SO SC M D z) (hz : z ≤ z') (hg : g' = g ∨ z ≤ g') (hg2 : g' < z') (hB : ∀ j, B' j → B j ∨ j = g ∨ z ≤ j) (hB2 : ∀ j, B' j → j < z') (n1 : ¬ B' g') (n2 : ¬ B' kl) :
    NdP k kl g' B' SO SC (fun j => (M j ∧ (j ≠ g ∨ g' = g ∨ j = kl)) ∨ j = g') (fun j => D j ∨ B' j) z' := by
  obtain ⟨a1, a2⟩ := h.a
  obtain ⟨⟨b1, b2⟩, ⟨b3, b4⟩, b5, b6⟩ := h.b
  obtain ⟨m1, m2, m3⟩ := h.m
  have hlm := h.lm
  have hld := h.ld
  have hso := h.so
  have hsc := h.sc
  have hdj := h.dj
  have hd := h.d
  refine ⟨⟨a1, ?_⟩, ⟨⟨b1, b2⟩, ⟨b3, b4⟩, ?_, ?_⟩, h.c, ⟨.inl ⟨m1, .inl a2⟩, .inl ⟨m2, .inr (.inr rfl)⟩, .inr rfl⟩, ?_, ?_, fun j hj => .inr hj, ?_, ?_, ?_⟩
  · have := hlm k m1
    rcases hg with e | e
    · omega
    · omega
  · intro e
    rcases hg with e2 | e2
    · exact b5 (e2 ▸ e)
    · have := hlm _ (hso _ e); omega
  · intro e
    rcases hg with e2 | e2
    · exact b6 (e2 ▸ e)
    · have := hlm _ (hsc _ e); omega
  · intro j hj
    exact .inl ⟨hso j hj, .inl fun e => b5 (e ▸ hj)⟩
  · intro j hj
    exact .inl ⟨hsc j hj, .inl fun e => b6 (e ▸ hj)⟩
  · rintro j (⟨hj, hn⟩ | rfl) (hD | hB3)
    · exact hdj j hj hD
    · rcases hB j hB3 with e | e | e
      · exact hdj j hj (hd j e)
      · rcases hn with n | n | n
        · exact n e
        · exact n1 (by rw [n, ← e]; exact hB3)
        · exact n2 (n ▸ hB3)
      · have := hlm j hj; omega
    · rcases hg with e | e
      · exact hdj j (e ▸ m3) hD
      · have := hld j hD; omega
    · exact n1 hB3
  · rintro j (⟨hj, -⟩ | rfl)
    · exact Nat.lt_of_lt_of_le (hlm j hj) hz
    · exact hg2
  · rintro j (hj | hj)
    · exact Nat.lt_of_lt_of_le (hld j hj) hz
    · exact hB2 j hj
/-- a row turns: what is told -/
theorem NdP.setO (h : NdP k kl g B SO SC M D z) (hz : z ≤ z') {y : Nat} (hy : z ≤ y) (hS : ∀ j, SO' j → SO j ∨ (y ≤ j ∧ j < z')) (hD : ∀ j, D' j → j < y ∧ ¬ M j) (hD0 : ∀ j, D j → D' j) (hyz : y ≤ z') : NdP k kl g B SO' SC (fun j => M j ∨ SO' j) D' z' := by
  obtain ⟨a1, a2⟩ := h.a
  obtain ⟨⟨b1, b2⟩, ⟨b3, b4⟩, b5, b6⟩ := h.b
  obtain ⟨m1, m2, m3⟩ := h.m
  have hlm := h.lm
  have n : ∀ j, M j → SO' j → SO j := fun j hj hS2 => (hS j hS2).elim id (fun e => by have := hlm j hj; omega)
  refine ⟨⟨a1, a2⟩, ⟨⟨fun e => b1 (n _ m1 e), b2⟩, ⟨fun e => b3 (n _ m2 e), b4⟩, fun e => b5 (n _ m3 e), b6⟩, fun j hj hc => h.c j (n j (h.sc j hc) hj) hc, ⟨.inl m1, .inl m2, .inl m3⟩, fun j hj => .inr hj, fun j hj => .inl (h.sc j hj), fun j hj => hD0 j (h.d j hj), ?_, ?_, fun j hj => Nat.lt_of_lt_of_le (hD j hj).1 hyz⟩
  · rintro j (hj | hj) hd
    · exact (hD j hd).2 hj
    · rcases hS j hj with e | e
      · exact (hD j hd).2 (h.so j e)
      · have := (hD j hd).1; omega
  · rintro j (hj | hj)
    · exact Nat.lt_of_lt_of_le (hlm j hj) hz
    · rcases hS j hj with e | e
      · exact Nat.lt_of_lt_of_le (hlm j (h.so j e)) hz
      · exact e.2
/-- a row turns: what is kept -/
theorem NdP.setC (h : NdP k kl g B SO SC M D z) (hz : z ≤ z') {y : Nat} (hy : z ≤ y) (hS : ∀ j, SC' j → SC j ∨ (y ≤ j ∧ j < z')) (hD : ∀ j, D' j → j < y ∧ ¬ M j) (hD0 : ∀ j, D j → D' j) (hyz : y ≤ z') : NdP k kl g B SO SC' (fun j => M j ∨ SC' j) D' z' := by
  obtain ⟨a1, a2⟩ := h.a
  obtain ⟨⟨b1, b2⟩, ⟨b3, b4⟩, b5, b6⟩ := h.b
  obtain ⟨m1, m2, m3⟩ := h.m
  have hlm := h.lm
  have n : ∀ j, M j → SC' j → SC j := fun j hj hS2 => (hS j hS2).elim id (fun e => by have := hlm j hj; omega)
  refine ⟨⟨a1, a2⟩, ⟨⟨b1, fun e => b2 (n _ m1 e)⟩, ⟨b3, fun e => b4 (n _ m2 e)⟩, b5, fun e => b6 (n _ m3 e)⟩, fun j hj hc => h.c j hj (n j (h.so j hj) hc), ⟨.inl m1, .inl m2, .inl m3⟩, fun j hj => .inl (h.so j hj), fun j hj => .inr hj, fun j hj => hD0 j (h.d j hj), ?_, ?_, fun j hj => Nat.lt_of_lt_of_le (hD j hj).1 hyz⟩
  · rintro j (hj | hj) hd
    · exact (hD j hd).2 hj
    · rcases hS j hj with e | e
      · exact (hD j hd).2 (h.sc j e)
      · have := (hD j hd).1; omega
  · rintro j (hj | hj)
    · exact Nat.lt_of_lt_of_le (hlm j hj) hz
    · rcases hS j hj with e | e
      · exact Nat.lt_of_lt_of_le (hlm j (h.sc j e)) hz
      · exact e.2
/-- more is read -/
theorem NdP.setD (h : NdP k kl g B SO SC M D z) (hz : z ≤ z') (hD : ∀ j, D' j → j < z' ∧ ¬ M j) (hD0 : ∀ j, D j → D' j) : NdP k kl g B SO SC M D' z' :=
  ⟨h.a, h.b, h.c, h.m, h.so, h.sc, fun j hj => hD0 j (h.d j hj), fun j hj hd => (hD j hd).2 hj, fun j hj => Nat.lt_of_lt_of_le (h.lm j hj) hz, fun j hj => (hD j hj).1⟩
theorem Nq.gr (h : Nq w SO SC D ad cd ao co ac cc ch da out) (f : Gr w w') : Nq w' SO SC D ad cd ao co ac cc ch da out := ⟨h.o.gr f, h.c.gr f, h.d.gr f⟩
theorem Nq.mvE (h : Nq w SO SC D ad cd ao co ac cc ch da out) (f : V.FrE X w w') (hn : ∀ j, X j → ¬ (SO j ∨ SC j ∨ D j)) : Nq w' SO SC D ad cd ao co ac cc ch da out :=
  ⟨h.o.mvE f (fun j hj e => hn j hj (e.elim (fun e => .inr (.inr e)) .inl)), h.c.mvE f (fun j hj e => hn j hj (e.elim (fun e => .inr (.inr e)) (fun e => .inr (.inl e)))), h.d.mvE f (fun j hj e => hn j hj (.inr (.inr e)))⟩
theorem Nq.mv1 {i : Nat} (h : Nq w SO SC D ad cd ao co ac cc ch da out) (f : Fr [i] w w') (hn : ¬ (SO i ∨ SC i ∨ D i)) : Nq w' SO SC D ad cd ao co ac cc ch da out := h.mvE (X := fun j => j = i) (V.FrE.of1 f rfl) (fun j hj => hj ▸ hn)
theorem Nq.mono (h : Nq w SO SC D ad cd ao co ac cc ch da out) (hD : ∀ j, D j → D' j) : Nq w SO SC D' ad cd ao co ac cc ch da out := ⟨h.o.mono2 (fun j hj => .inl (hD j hj)) (fun j hj => hj), h.c.mono2 (fun j hj => .inl (hD j hj)) (fun j hj => hj), h.d.mono hD⟩
theorem Nd.gr (h : Nd w k M D d) (f : Gr w w') : Nd w' k M D d :=
  let ⟨kl, g, B, SO, SC, ad, cd, ao, co, ac, cc, ch, h1, h2, h3, h4, h5⟩ := h.ex; ⟨h.ok, kl, g, B, SO, SC, ad, cd, ao, co, ac, cc, ch, h1.up f.size, h2, h3.gr f, h4.gr f, h5.gr f⟩
theorem Nd.mvE (h : Nd w k M D d) (f : V.FrE X w w') (hn : ∀ j, X j → ¬ (M j ∨ D j)) : Nd w' k M D d :=
  let ⟨kl, g, B, SO, SC, ad, cd, ao, co, ac, cc, ch, h1, h2, h3, h4, h5⟩ := h.ex
  ⟨h.ok, kl, g, B, SO, SC, ad, cd, ao, co, ac, cc, ch, h1.up f.size, h2, h3.mvE f (fun hX => hn k hX (.inl h1.m.1)), h4.mvE f (fun j hj e => hn j hj (e.elim (fun e => .inl (e ▸ h1.m.2.1)) (fun e => e.elim (fun e => .inl (e ▸ h1.m.2.2)) (fun e => .inr (h1.d j e))))), h5.mvE f (fun j hj e => hn j hj (e.elim (fun e => .inl (h1.so j e)) (fun e => e.elim (fun e => .inl (h1.sc j e)) .inr)))⟩
theorem Nd.mv1 {i : Nat} (h : Nd w k M D d) (f : Fr [i] w w') (hn : ¬ (M i ∨ D i)) : Nd w' k M D d := h.mvE (X := fun j => j = i) (V.FrE.of1 f rfl) (fun j hj => hj ▸ hn)
theorem Nd.lm (h : Nd w k M D d) : ∀ j, M j → j < w.heap.size := let ⟨_, _, _, _, _, _, _, _, _, _, _, _, h1, _⟩ := h.ex; h1.lm
theorem Nd.ld (h : Nd w k M D d) : ∀ j, D j → j < w.heap.size := let ⟨_, _, _, _, _, _, _, _, _, _, _, _, h1, _⟩ := h.ex; h1.ld
theorem Nd.dj (h : Nd w k M D d) : ∀ j, M j → ¬ D j := let ⟨_, _, _, _, _, _, _, _, _, _, _, _, h1, _⟩ := h.ex; h1.dj
theorem Nd.mk' (h : Nd w k M D d) : M k := let ⟨_, _, _, _, _, _, _, _, _, _, _, _, h1, _⟩ := h.ex; h1.m.1
end

set_option maxHeartbeats 4000000 in
set_option maxRecDepth 10000 in
theorem rnumber_spec {w : World}  {n : Int}  :
    Meets Try.prog 35 [.int .i64 n] w fun r w' => r = .bool (nmB n) ∧ w = w' := by
 refine V.enter (n := 9) Try.func35 rfl rfl (by decide) rfl ?_
 refine V.sr ?_
 refine V.ru 1 ?_
 refine V.nt ?_
 refine V.sr ?_
 refine V.ru 3 ?_
 refine V.andG T_ok 2 2 5 rfl rfl rfl rfl rfl rfl rfl rfl ?_
 refine V.ru 1 ?_
 refine V.nt ?_
 refine V.ret ?_
 refine V.done rfl ?_
 exact ⟨(congrArg Value.bool (by first | rfl | (unfold nmB; grind))), rfl⟩

set_option maxHeartbeats 4000000 in
set_option maxRecDepth 10000 in
theorem rlast_spec {w : World} {k : Nat} {M D : Nat → Prop} {d : NodeV} (FX : Nd w k M D d)   :
    Meets Try.prog 59 [.pointer (some ⟨k, 0, none⟩)] w fun r w' => r = .int .i64 (lastI d.L) ∧ Gr w w' := by
 have hM := FX.lm
 have hk0 := FX.lm _ FX.mk'
 have hD := FX.ld
 have hMD := FX.dj
 have hMk := FX.mk'
 have HG := V.Fr.refl [] w
 refine V.enter (n := 14) Try.func59 rfl rfl (by decide) rfl ?_
 refine V.sr ?_
 refine V.ru 1 ?_
 refine V.nt ?_
 refine V.seq ?_
 obtain ⟨kl_1, g_1, B_1, SO_1, SC_1, ad_1, cd_1, ao_1, co_1, ac_1, cc_1, ch_1, hP_1, hc_1, Fk_1, FL_1, FQ_1⟩ := FX.ex
 obtain ⟨hid_1, hrg_1, hte_1, hco_1, hx0_1, hx1_1, hx2_1, hm0_1, hm1_1, hm2_1, hda_1⟩ := FX.ok
 have nk_1 := hP_1.nk
 have nl_1 := hP_1.nl
 have ng_1 := hP_1.ng
 have kL_1 := hP_1.kL
 have lq_1 := hP_1.lq
 have bd_1 := hP_1.d
 obtain ⟨mk_1, ml_1, mg_1⟩ := hP_1.m
 have hA_1 := hP_1.a
 have lm_1 := hP_1.lm
 have ld_1 := hP_1.ld
 have hLo_1 := FL_1.ok
 have hLd_1 := FL_1.dl
 have hLg_1 := FL_1.gl
 have hLk_1 := FL_1.lt
 have hLb_1 := FL_1.bl
 have hkl_1 := Fk_1.lt
 refine V.region ?_
 refine V.ru 3 ?_
 refine V.loadO T_ok Fk_1 rfl rfl rfl rfl rfl ?_
 refine V.call (last_spec FL_1) rfl rfl rfl ?_
 rintro _ w2 ⟨rfl, G3⟩
 have z4 := V.Fr.size G3
 refine V.ru 5 ?_
 refine V.nt ?_
 refine V.sr ?_
 refine V.ru 2 ?_
 refine V.nt ?_
 refine V.ret ?_
 refine V.done rfl ?_
 replace HG := HG.grow G3
 exact ⟨(by first | rfl | simp only [List.length_set]), HG⟩

set_option maxHeartbeats 4000000 in
set_option maxRecDepth 10000 in
theorem rhard_spec {w : World} {k : Nat} {M D : Nat → Prop} {d : NodeV} (FX : Nd w k M D d)   :
    Meets Try.prog 14 [.pointer (some ⟨k, 0, none⟩)] w fun r w' => r = .tuple #[.int .i64 d.te, .int .i64 d.vo] ∧ Gr w w' := by
 have hM := FX.lm
 have hk0 := FX.lm _ FX.mk'
 have hD := FX.ld
 have hMD := FX.dj
 have hMk := FX.mk'
 have HG := V.Fr.refl [] w
 refine V.enter (n := 14) Try.func14 rfl rfl (by decide) rfl ?_
 refine V.sr ?_
 refine V.ru 2 ?_
 refine V.nt ?_
 refine V.seq ?_
 refine V.sr ?_
 refine V.ru 2 ?_
 refine V.nt ?_
 refine V.condN rfl rfl ?_
 refine V.skip ?_
 refine V.tN ?_
 refine V.seq ?_
 obtain ⟨kl_1, g_1, B_1, SO_1, SC_1, ad_1, cd_1, ao_1, co_1, ac_1, cc_1, ch_1, hP_1, hc_1, Fk_1, FL_1, FQ_1⟩ := FX.ex
 obtain ⟨hid_1, hrg_1, hte_1, hco_1, hx0_1, hx1_1, hx2_1, hm0_1, hm1_1, hm2_1, hda_1⟩ := FX.ok
 have nk_1 := hP_1.nk
 have nl_1 := hP_1.nl
 have ng_1 := hP_1.ng
 have kL_1 := hP_1.kL
 have lq_1 := hP_1.lq
 have bd_1 := hP_1.d
 obtain ⟨mk_1, ml_1, mg_1⟩ := hP_1.m
 have hA_1 := hP_1.a
 have lm_1 := hP_1.lm
 have ld_1 := hP_1.ld
 have hLo_1 := FL_1.ok
 have hLd_1 := FL_1.dl
 have hLg_1 := FL_1.gl
 have hLk_1 := FL_1.lt
 have hLb_1 := FL_1.bl
 have hkl_1 := Fk_1.lt
 refine V.drawQ mixed (by kernel_rfl) ?_
 refine V.qrun T_ok 3 rfl ?_
 refine V.qloadO T_ok Fk_1 rfl rfl rfl rfl rfl ?_
 refine V.qrun T_ok 3 rfl ?_
 refine V.qloadO T_ok Fk_1 rfl rfl rfl rfl rfl ?_
 refine V.qrun T_ok 2 rfl ?_
 refine V.qnil ?_
 rintro w2 G3
 have z4 := V.Fr.size G3
 refine V.tN ?_
 refine V.ret ?_
 refine V.done rfl ?_
 replace HG := HG.grow G3
 exact ⟨(by first | rfl | simp only [List.length_set]), HG⟩

set_option maxHeartbeats 4000000 in
set_option maxRecDepth 10000 in
theorem rrole_spec {w : World} {k : Nat} {M D : Nat → Prop} {d : NodeV} (FX : Nd w k M D d)   :
    Meets Try.prog 23 [.pointer (some ⟨k, 0, none⟩)] w fun r w' => r = .tuple #[.int .i64 d.ro, .int .i64 d.le] ∧ Gr w w' := by
 have hM := FX.lm
 have hk0 := FX.lm _ FX.mk'
 have hD := FX.ld
 have hMD := FX.dj
 have hMk := FX.mk'
 have HG := V.Fr.refl [] w
 refine V.enter (n := 14) Try.func23 rfl rfl (by decide) rfl ?_
 refine V.sr ?_
 refine V.ru 2 ?_
 refine V.nt ?_
 refine V.seq ?_
 refine V.sr ?_
 refine V.ru 2 ?_
 refine V.nt ?_
 refine V.condN rfl rfl ?_
 refine V.skip ?_
 refine V.tN ?_
 refine V.seq ?_
 obtain ⟨kl_1, g_1, B_1, SO_1, SC_1, ad_1, cd_1, ao_1, co_1, ac_1, cc_1, ch_1, hP_1, hc_1, Fk_1, FL_1, FQ_1⟩ := FX.ex
 obtain ⟨hid_1, hrg_1, hte_1, hco_1, hx0_1, hx1_1, hx2_1, hm0_1, hm1_1, hm2_1, hda_1⟩ := FX.ok
 have nk_1 := hP_1.nk
 have nl_1 := hP_1.nl
 have ng_1 := hP_1.ng
 have kL_1 := hP_1.kL
 have lq_1 := hP_1.lq
 have bd_1 := hP_1.d
 obtain ⟨mk_1, ml_1, mg_1⟩ := hP_1.m
 have hA_1 := hP_1.a
 have lm_1 := hP_1.lm
 have ld_1 := hP_1.ld
 have hLo_1 := FL_1.ok
 have hLd_1 := FL_1.dl
 have hLg_1 := FL_1.gl
 have hLk_1 := FL_1.lt
 have hLb_1 := FL_1.bl
 have hkl_1 := Fk_1.lt
 refine V.drawQ mixed (by kernel_rfl) ?_
 refine V.qrun T_ok 3 rfl ?_
 refine V.qloadO T_ok Fk_1 rfl rfl rfl rfl rfl ?_
 refine V.qrun T_ok 3 rfl ?_
 refine V.qloadO T_ok Fk_1 rfl rfl rfl rfl rfl ?_
 refine V.qrun T_ok 2 rfl ?_
 refine V.qnil ?_
 rintro w2 G3
 have z4 := V.Fr.size G3
 refine V.tN ?_
 refine V.ret ?_
 refine V.done rfl ?_
 replace HG := HG.grow G3
 exact ⟨(by first | rfl | simp only [List.length_set]), HG⟩

set_option maxHeartbeats 4000000 in
set_option maxRecDepth 10000 in
theorem rcommit_spec {w : World} {k : Nat} {M D : Nat → Prop} {d : NodeV} (FX : Nd w k M D d)   :
    Meets Try.prog 26 [.pointer (some ⟨k, 0, none⟩)] w fun r w' => r = .int .i64 d.co ∧ Gr w w' := by
 have hM := FX.lm
 have hk0 := FX.lm _ FX.mk'
 have hD := FX.ld
 have hMD := FX.dj
 have hMk := FX.mk'
 have HG := V.Fr.refl [] w
 refine V.enter (n := 9) Try.func26 rfl rfl (by decide) rfl ?_
 refine V.sr ?_
 refine V.ru 1 ?_
 refine V.nt ?_
 refine V.seq ?_
 refine V.sr ?_
 refine V.ru 2 ?_
 refine V.nt ?_
 refine V.condN rfl rfl ?_
 refine V.skip ?_
 refine V.tN ?_
 refine V.seq ?_
 obtain ⟨kl_1, g_1, B_1, SO_1, SC_1, ad_1, cd_1, ao_1, co_1, ac_1, cc_1, ch_1, hP_1, hc_1, Fk_1, FL_1, FQ_1⟩ := FX.ex
 obtain ⟨hid_1, hrg_1, hte_1, hco_1, hx0_1, hx1_1, hx2_1, hm0_1, hm1_1, hm2_1, hda_1⟩ := FX.ok
 have nk_1 := hP_1.nk
 have nl_1 := hP_1.nl
 have ng_1 := hP_1.ng
 have kL_1 := hP_1.kL
 have lq_1 := hP_1.lq
 have bd_1 := hP_1.d
 obtain ⟨mk_1, ml_1, mg_1⟩ := hP_1.m
 have hA_1 := hP_1.a
 have lm_1 := hP_1.lm
 have ld_1 := hP_1.ld
 have hLo_1 := FL_1.ok
 have hLd_1 := FL_1.dl
 have hLg_1 := FL_1.gl
 have hLk_1 := FL_1.lt
 have hLb_1 := FL_1.bl
 have hkl_1 := Fk_1.lt
 refine V.region ?_
 refine V.ru 3 ?_
 refine V.loadO T_ok Fk_1 rfl rfl rfl rfl rfl ?_
 refine V.ru 1 ?_
 refine V.nt ?_
 refine V.ret ?_
 refine V.done rfl ?_
 exact ⟨(by first | rfl | simp only [List.length_set]), HG⟩

set_option maxHeartbeats 4000000 in
set_option maxRecDepth 10000 in
theorem turn_spec {w : World} {k : Nat} {M D : Nat → Prop} {d : NodeV} (FX : Nd w k M D d) {te : Int} {ro : Int} {le : Int} (h0 : 0 ≤ te ∧ te ≤ 1099511627776) :
    Meets Try.prog 39 [.pointer (some ⟨k, 0, none⟩), .int .i64 te, .int .i64 ro, .int .i64 le] w fun r w' => r = .tuple #[] ∧ Nd w' k M D (turnV d te ro le) ∧ V.FrE M w w' := by
 have hM := FX.lm
 have hk0 := FX.lm _ FX.mk'
 have hD := FX.ld
 have hMD := FX.dj
 have hMk := FX.mk'
 have HG := V.FrE.refl M w
 refine V.enter (n := 20) Try.func39 rfl rfl (by decide) rfl ?_
 obtain ⟨kl_1, g_1, B_1, SO_1, SC_1, ad_1, cd_1, ao_1, co_1, ac_1, cc_1, ch_1, hP_1, hc_1, Fk_1, FL_1, FQ_1⟩ := FX.ex
 obtain ⟨hid_1, hrg_1, hte_1, hco_1, hx0_1, hx1_1, hx2_1, hm0_1, hm1_1, hm2_1, hda_1⟩ := FX.ok
 have nk_1 := hP_1.nk
 have nl_1 := hP_1.nl
 have ng_1 := hP_1.ng
 have kL_1 := hP_1.kL
 have lq_1 := hP_1.lq
 have bd_1 := hP_1.d
 obtain ⟨mk_1, ml_1, mg_1⟩ := hP_1.m
 have hA_1 := hP_1.a
 have lm_1 := hP_1.lm
 have ld_1 := hP_1.ld
 have hLo_1 := FL_1.ok
 have hLd_1 := FL_1.dl
 have hLg_1 := FL_1.gl
 have hLk_1 := FL_1.lt
 have hLb_1 := FL_1.bl
 have hkl_1 := Fk_1.lt
 clear FX
 refine V.region ?_
 refine V.ru 8 ?_
 refine V.storeO Fk_1 rfl rfl rfl rfl sz3 rfl rfl rfl rfl ?_
 rintro w2 G3 z5 Fs4
 clear Fk_1
 have z6 := V.Fr.size G3
 have Fk_1 := Fs4; clear Fs4
 simp only [V.spliceL, V.cellsL] at Fk_1
 refine V.ru 2 ?_
 refine V.storeO Fk_1 rfl rfl rfl rfl sz3 rfl rfl rfl rfl ?_
 rintro w7 G8 z10 Fs9
 clear Fk_1
 have z11 := V.Fr.size G8
 have Fk_1 := Fs9; clear Fs9
 simp only [V.spliceL, V.cellsL] at Fk_1
 refine V.ru 2 ?_
 refine V.storeO Fk_1 rfl rfl rfl rfl sz3 rfl rfl rfl rfl ?_
 rintro w12 G13 z15 Fs14
 clear Fk_1
 have z16 := V.Fr.size G13
 have Fk_1 := Fs14; clear Fs14
 simp only [V.spliceL, V.cellsL] at Fk_1
 refine V.nil ?_
 replace FL_1 := FL_1.mv1 G3 (by (try dsimp only [V.In]); first | omega | grind)
 replace FL_1 := FL_1.mv1 G8 (by (try dsimp only [V.In]); first | omega | grind)
 replace FL_1 := FL_1.mv1 G13 (by (try dsimp only [V.In]); first | omega | grind)
 replace FQ_1 := FQ_1.mv1 G3 (by (try dsimp only [V.In]); first | omega | grind)
 replace FQ_1 := FQ_1.mv1 G8 (by (try dsimp only [V.In]); first | omega | grind)
 replace FQ_1 := FQ_1.mv1 G13 (by (try dsimp only [V.In]); first | omega | grind)
 have F17 : Nd w12 k M D (turnV d te ro le) := ⟨⟨hid_1, hrg_1, h0, hco_1, hx0_1, hx1_1, hx2_1, hm0_1, hm1_1, hm2_1, hda_1⟩, _, _, _, _, _, _, _, _, _, _, _, _, (hP_1.up (by omega)), hc_1, Fk_1, FL_1, FQ_1⟩
 clear Fk_1 FL_1 FQ_1
 refine V.doneN rfl ?_
 replace HG := HG.n1 G3 (by first | (refine Or.inr ?_; omega) | (refine Or.inl ?_; first | assumption | (dsimp only; grind)) | grind)
 replace HG := HG.n1 G8 (by first | (refine Or.inr ?_; omega) | (refine Or.inl ?_; first | assumption | (dsimp only; grind)) | grind)
 replace HG := HG.n1 G13 (by first | (refine Or.inr ?_; omega) | (refine Or.inl ?_; first | assumption | (dsimp only; grind)) | grind)
 exact ⟨(by first | rfl | simp only [List.length_set]), F17, HG⟩

set_option maxHeartbeats 4000000 in
set_option maxRecDepth 10000 in
theorem tell_spec {w : World} {k : Nat} {M D : Nat → Prop} {d : NodeV} (FX : Nd w k M D d) {to : Int} {m : RMsg} {D_me : Nat → Prop} {c_me : Nat} {a_me : Option Addr} (F_me : Sl V.Cod.ent w D_me a_me c_me m.es) (hD_me : ∀ k, D_me k → k < w.heap.size) {D_md : Nat → Prop} {c_md : Nat} {a_md : Option Addr} (F_md : Sl V.Cod.byte w D_md a_md c_md m.da) (hD_md : ∀ k, D_md k → k < w.heap.size)  (hMe : ∀ j, D_me j → ¬ M j) (hMm : ∀ j, D_md j → ¬ M j) (hs : d.out.length + 1 ≤ 1000000) :
    Meets Try.prog 43 [.pointer (some ⟨k, 0, none⟩), .int .i64 to, .agg #[.int .i64 m.kd, .int .i64 m.fr, .int .i64 m.to, .int .i64 m.rg, .int .i64 m.te, .int .i64 m.ix, .int .i64 m.lt, .int .i64 m.co, .bool m.ok, .slice a_me m.es.length c_me, .slice a_md m.da.length c_md, .int .i64 0, .int .i64 0, .int .i64 0, .int .i64 0, .int .i64 0, .int .i64 0, .int .i64 0, .int .i64 0, .string ByteArray.empty, .int .i64 0, .int .i64 0, .int .i64 0, .string ByteArray.empty, .string ByteArray.empty, .string ByteArray.empty, .bool false, .int .i64 0, .int .i64 0, .int .i64 0, .int .i64 0, .bool false, .bool false, .slice none 0 0, .int .i64 0, .int .i64 0, .int .i64 0, .int .i64 0, .slice none 0 0, .bool false, .int .i64 0, .int .i64 0, .string ByteArray.empty, .int .i64 0, .int .i64 0, .int .i64 0, .int .i64 0, .int .i64 0, .int .i64 0, .int .i64 0, .int .i64 0, .int .i64 0, .slice none 0 0]] w fun r w' => ∃ (rM15 : Nat → Prop) (rD15 : Nat → Prop), r = .tuple #[] ∧ Nd w' k rM15 rD15 (tellV d to m) ∧ (∀ j, rM15 j → M j ∨ w.heap.size ≤ j) ∧ (∀ j, rD15 j → D j ∨ M j ∨ D_me j ∨ D_md j ∨ w.heap.size ≤ j) ∧ V.FrE M w w' := by
 have hM := FX.lm
 have hk0 := FX.lm _ FX.mk'
 have hD := FX.ld
 have hMD := FX.dj
 have hMk := FX.mk'
 have HG := V.FrE.refl M w
 refine V.enter (n := 33) Try.func43 rfl rfl (by decide) rfl ?_
 refine V.seq ?_
 obtain ⟨kl_1, g_1, B_1, SO_1, SC_1, ad_1, cd_1, ao_1, co_1, ac_1, cc_1, ch_1, hP_1, hc_1, Fk_1, FL_1, FQ_1⟩ := FX.ex
 obtain ⟨hid_1, hrg_1, hte_1, hco_1, hx0_1, hx1_1, hx2_1, hm0_1, hm1_1, hm2_1, hda_1⟩ := FX.ok
 have nk_1 := hP_1.nk
 have nl_1 := hP_1.nl
 have ng_1 := hP_1.ng
 have kL_1 := hP_1.kL
 have lq_1 := hP_1.lq
 have bd_1 := hP_1.d
 obtain ⟨mk_1, ml_1, mg_1⟩ := hP_1.m
 have hA_1 := hP_1.a
 have lm_1 := hP_1.lm
 have ld_1 := hP_1.ld
 have hLo_1 := FL_1.ok
 have hLd_1 := FL_1.dl
 have hLg_1 := FL_1.gl
 have hLk_1 := FL_1.lt
 have hLb_1 := FL_1.bl
 have hkl_1 := Fk_1.lt
 clear FX
 obtain ⟨Fo_1, Fc_1, Fd_1⟩ := FQ_1
 have hso := hP_1.so
 have hsc := hP_1.sc
 have hbd := hP_1.d
 have hss := hP_1.c
 have hss2 : ∀ j, SC_1 j → ¬ SO_1 j := fun j h e => hss j e h
 refine V.region ?_
 refine V.box rfl rfl rfl rfl ?_
 rintro k2 w4 s6 s7 G5 Fk3
 have z8 := V.Fr.size G5
 try simp only [V.cellsL, V.spliceL] at Fk3
 refine V.nt ?_
 refine V.seq ?_
 replace F_me := F_me.gr G5
 replace F_md := F_md.gr G5
 replace Fk_1 := Fk_1.gr G5
 replace FL_1 := FL_1.gr G5
 replace Fo_1 := Fo_1.gr G5
 replace Fc_1 := Fc_1.gr G5
 replace Fd_1 := Fd_1.gr G5
 replace HG := HG.grow G5
 refine V.drawM (fun w_ => V.Fr [k2] w4 w_) (fun i => Nat.beq i 14 || Nat.beq i 16 || Nat.beq i 18 || Nat.beq i 20) (fun _ g_ => g_.mono (by simp)) mixed (by kernel_rfl) (by kernel_rfl) ?_
 refine V.mrun T_ok 3 rfl rfl ?_
 refine V.mloadO T_ok (fun w' g_ => V.Cells.mv1 Fk_1 g_ (by omega)) rfl rfl rfl rfl rfl rfl ?_
 refine V.mrun T_ok 4 rfl rfl ?_
 refine V.mloadO T_ok (fun w' g_ => V.Cells.mv1 Fk_1 g_ (by omega)) rfl rfl rfl rfl rfl rfl ?_
 refine V.mrun T_ok 3 rfl rfl ?_
 refine V.mloadO T_ok (fun w' g_ => V.Cells.mv1 Fk_1 g_ (by omega)) rfl rfl rfl rfl rfl rfl ?_
 refine V.mrun T_ok 1 rfl rfl ?_
 refine V.mstoreC (fun _ _ h_ => Fk3.gr h_) (fun _ _ a _ b hc => V.Fr.dup a b) rfl rfl rfl rfl sz3 rfl rfl rfl rfl rfl ?_
 refine V.mrun T_ok 1 rfl rfl ?_
 refine V.mstoreC (fun _ _ h_ => by obtain ⟨_, _, _, _, h2_⟩ := h_; exact h2_) (fun _ _ a _ b hc => V.Fr.dup a b) rfl rfl rfl rfl sz3 rfl rfl rfl rfl rfl ?_
 refine V.mrun T_ok 1 rfl rfl ?_
 refine V.mstoreC (fun _ _ h_ => by obtain ⟨_, _, _, _, h2_⟩ := h_; exact h2_) (fun _ _ a _ b hc => V.Fr.dup a b) rfl rfl rfl rfl sz3 rfl rfl rfl rfl rfl ?_
 refine V.mrun T_ok 1 rfl rfl ?_
 refine V.mstoreC (fun _ _ h_ => by obtain ⟨_, _, _, _, h2_⟩ := h_; exact h2_) (fun _ _ a _ b hc => V.Fr.dup a b) rfl rfl rfl rfl sz3 rfl rfl rfl rfl rfl ?_
 refine V.mnil ?_
 rintro w9 - ⟨w17, ⟨w15, ⟨w13, ⟨w11, g0_, G12, -, -⟩, G14, -, -⟩, G16, -, -⟩, G18, -, Fk10⟩
 have z19 := V.Fr.size g0_
 clear Fk3
 have z20 := V.Fr.size G12
 have z21 := V.Fr.size G14
 have z22 := V.Fr.size G16
 have z23 := V.Fr.size G18
 have Fk3 := Fk10; clear Fk10
 try simp only [V.spliceL, V.cellsL] at Fk3
 refine V.tN ?_
 replace F_me := F_me.gr g0_
 replace F_me := F_me.mv1 G12 (by (try dsimp only [V.In]); first | omega | grind)
 replace F_me := F_me.mv1 G14 (by (try dsimp only [V.In]); first | omega | grind)
 replace F_me := F_me.mv1 G16 (by (try dsimp only [V.In]); first | omega | grind)
 replace F_me := F_me.mv1 G18 (by (try dsimp only [V.In]); first | omega | grind)
 replace F_md := F_md.gr g0_
 replace F_md := F_md.mv1 G12 (by (try dsimp only [V.In]); first | omega | grind)
 replace F_md := F_md.mv1 G14 (by (try dsimp only [V.In]); first | omega | grind)
 replace F_md := F_md.mv1 G16 (by (try dsimp only [V.In]); first | omega | grind)
 replace F_md := F_md.mv1 G18 (by (try dsimp only [V.In]); first | omega | grind)
 replace Fk_1 := Fk_1.gr g0_
 replace Fk_1 := Fk_1.ma G12
 replace Fk_1 := Fk_1.ma G14
 replace Fk_1 := Fk_1.ma G16
 replace Fk_1 := Fk_1.ma G18
 replace FL_1 := FL_1.gr g0_
 replace FL_1 := FL_1.mv1 G12 (by (try dsimp only [V.In]); first | omega | grind)
 replace FL_1 := FL_1.mv1 G14 (by (try dsimp only [V.In]); first | omega | grind)
 replace FL_1 := FL_1.mv1 G16 (by (try dsimp only [V.In]); first | omega | grind)
 replace FL_1 := FL_1.mv1 G18 (by (try dsimp only [V.In]); first | omega | grind)
 replace Fo_1 := Fo_1.gr g0_
 replace Fo_1 := Fo_1.mv1 G12 (by (try dsimp only [V.In]); first | omega | grind)
 replace Fo_1 := Fo_1.mv1 G14 (by (try dsimp only [V.In]); first | omega | grind)
 replace Fo_1 := Fo_1.mv1 G16 (by (try dsimp only [V.In]); first | omega | grind)
 replace Fo_1 := Fo_1.mv1 G18 (by (try dsimp only [V.In]); first | omega | grind)
 replace Fc_1 := Fc_1.gr g0_
 replace Fc_1 := Fc_1.mv1 G12 (by (try dsimp only [V.In]); first | omega | grind)
 replace Fc_1 := Fc_1.mv1 G14 (by (try dsimp only [V.In]); first | omega | grind)
 replace Fc_1 := Fc_1.mv1 G16 (by (try dsimp only [V.In]); first | omega | grind)
 replace Fc_1 := Fc_1.mv1 G18 (by (try dsimp only [V.In]); first | omega | grind)
 replace Fd_1 := Fd_1.gr g0_
 replace Fd_1 := Fd_1.mv1 G12 (by (try dsimp only [V.In]); first | omega | grind)
 replace Fd_1 := Fd_1.mv1 G14 (by (try dsimp only [V.In]); first | omega | grind)
 replace Fd_1 := Fd_1.mv1 G16 (by (try dsimp only [V.In]); first | omega | grind)
 replace Fd_1 := Fd_1.mv1 G18 (by (try dsimp only [V.In]); first | omega | grind)
 replace HG := HG.grow g0_
 replace HG := HG.n1 G12 (by first | (refine Or.inr ?_; omega) | (refine Or.inl ?_; first | assumption | (dsimp only; grind)) | grind)
 replace HG := HG.n1 G14 (by first | (refine Or.inr ?_; omega) | (refine Or.inl ?_; first | assumption | (dsimp only; grind)) | grind)
 replace HG := HG.n1 G16 (by first | (refine Or.inr ?_; omega) | (refine Or.inl ?_; first | assumption | (dsimp only; grind)) | grind)
 replace HG := HG.n1 G18 (by first | (refine Or.inr ?_; omega) | (refine Or.inl ?_; first | assumption | (dsimp only; grind)) | grind)
 refine V.drawMT 10 (fun w_ => V.FrE SO_1 w9 w_) (fun i => Nat.beq i 6 || Nat.beq i 7) (fun _ g_ => V.FrE.ofGr g_) mixed (by kernel_rfl) (by kernel_rfl) ?_
 refine V.mrun T_ok 4 rfl rfl ?_
 refine V.mloadO T_ok (fun w' g_ => V.Cells.mvE Fk_1 g_ (by (try dsimp only); first | omega | grind)) rfl rfl rfl rfl rfl rfl ?_
 refine V.mloadO T_ok (fun w' g_ => V.Cells.mvE Fk3 g_ (by (try dsimp only); first | omega | grind)) rfl rfl rfl rfl rfl rfl ?_
 refine V.mop (fun w1_ v_ w2_ => ∃ k_, v_ = .slice (some ⟨k_, 0, none⟩) 1 1 ∧ Gr w1_ w2_ ∧ Sl V.Cod.rmsg w2_ (fun j => (D_me j ∨ D_md j) ∨ V.In w9.heap.size w2_.heap.size j) (some ⟨k_, 0, none⟩) 1 [(⟨m.kd, d.id, to, d.rg, d.te, m.ix, m.lt, m.co, m.ok, m.es, m.da⟩ : RMsg)]) rfl rfl rfl rfl (fun w' g_ h_ => ?_) ?_
 ·
  have z0_ := V.Fr.size h_
  refine V.mkSlice T_ok zero57 rfl rfl sz57 rfl rfl rfl rfl rfl rfl ?_
  rintro k2_ w2_ s1_ s2_ G2_ Fk_
  have z2_ := V.Fr.size G2_
  refine V.nil ?_
  exact ⟨rfl, (g_.trans (V.FrE.ofGr (X := fun _ => False) G2_)).mono (fun i h _ => h.elim id False.elim), k2_, rfl, G2_, V.Cells.sl (xs := [(⟨m.kd, d.id, to, d.rg, d.te, m.ix, m.lt, m.co, m.ok, m.es, m.da⟩ : RMsg)]) Fk_ (V.reps_cons (x := (⟨m.kd, d.id, to, d.rg, d.te, m.ix, m.lt, m.co, m.ok, m.es, m.da⟩ : RMsg)) ⟨_, _, _, _, rfl, ((F_me.gr h_).gr G2_).mono (fun j h => .inl (.inl h)), ((F_md.gr h_).gr G2_).mono (fun j h => .inl (.inr h))⟩ rfl rfl) (.inr ⟨by omega, by omega⟩) (by simp [maxLen])⟩
 rintro _ _ _ _ _ ⟨k24, rfl, -, -⟩
 refine V.mop (fun w1_ v_ w2_ => ∃ a_ c_, v_ = .slice a_ (d.out ++ [(⟨m.kd, d.id, to, d.rg, d.te, m.ix, m.lt, m.co, m.ok, m.es, m.da⟩ : RMsg)]).length c_ ∧ V.FrE SO_1 w1_ w2_ ∧ V.RowE V.Cod.rmsg 57 w2_ (fun j => D j ∨ (fun j => (D_me j ∨ D_md j) ∨ V.In w9.heap.size w1_.heap.size j) j) (fun j => SO_1 j ∨ V.In w1_.heap.size w2_.heap.size j) a_ c_ (d.out ++ [(⟨m.kd, d.id, to, d.rg, d.te, m.ix, m.lt, m.co, m.ok, m.es, m.da⟩ : RMsg)])) rfl rfl rfl rfl (fun w' g_ h_ => ?_) ?_
 ·
  obtain ⟨w1_, c1_, g0_, k2_, hk_, G2_, FS_⟩ := h_
  cases hk_
  have z0_ := V.Fr.size g0_
  have z2_ := V.Fr.size G2_
  refine V.appendZ ((Fo_1.gr g0_).gr G2_) (FS_.from Try.underlying68) elT68_68 rfl rfl rfl rfl rfl (by simp only [List.length_cons, List.length_nil]; omega) (by unfold maxLen; simp only [List.length_cons, List.length_nil]; omega) (by intro j h; (try dsimp only [V.In] at h); have a1 := lm_1 j; have a2 := ld_1 j; have a3 := hso j; have a4 := hMD j; grind) (by intro j h; (try dsimp only [V.In] at h); have a1 := lm_1 j; have a2 := ld_1 j; have a3 := hso j; have a4 := hMD j; grind) (by intro j h; (try dsimp only [V.In] at h); have a1 := lm_1 j; have a2 := ld_1 j; have a3 := hso j; have a4 := hMD j; grind) ?_
  rintro a3_ c3_ w3_ G3_ z3_ F3_
  refine V.nil ?_
  exact ⟨rfl, (g_.trans G3_).mono (fun i h _ => h.elim id id), a3_, c3_, rfl, G3_, F3_⟩
 rintro _ _ _ _ _ ⟨a25, c26, rfl, -, -⟩
 refine V.mrun T_ok 2 rfl rfl ?_
 refine V.mnil ?_
 rintro w29 - ⟨w28, -, ⟨w27, -, g0_, k2_, hk_, G2_, FS_⟩, a3_, c3_, hv_, G3_, F3_⟩
 cases hk_; cases hv_
 clear FS_
 have z30 := V.Fr.size g0_
 have z31 := V.Fr.size G2_
 clear Fo_1
 have z32 := V.FrE.size G3_
 replace Fk_1 := Fk_1.gr (g0_.trans G2_)
 replace Fk_1 := Fk_1.mvE G3_ (by (try dsimp only [V.In]); first | omega | grind)
 refine V.storeO Fk_1 rfl rfl rfl rfl sz68 rfl rfl rfl rfl ?_
 rintro w33 G34 z36 Fs35
 clear Fk_1
 have z37 := V.Fr.size G34
 have Fk_1 := Fs35; clear Fs35
 simp only [V.spliceL, V.cellsL] at Fk_1
 refine V.nil ?_
 replace FL_1 := FL_1.gr (g0_.trans G2_)
 replace FL_1 := FL_1.mvE G3_ (by intro j h hd; (try dsimp only [V.In] at h hd ⊢); first | omega | grind)
 replace FL_1 := FL_1.mv1 G34 (by (try dsimp only [V.In]); first | omega | grind)
 replace Fc_1 := Fc_1.gr (g0_.trans G2_)
 replace Fc_1 := Fc_1.mvE G3_ (by intro j h hd; (try dsimp only [V.In] at h hd ⊢); first | omega | grind)
 replace Fc_1 := Fc_1.mv1 G34 (by (try dsimp only [V.In]); first | omega | grind)
 replace Fd_1 := Fd_1.gr (g0_.trans G2_)
 replace Fd_1 := Fd_1.mvE G3_ (by intro j h hd; (try dsimp only [V.In] at h hd ⊢); first | omega | grind)
 replace Fd_1 := Fd_1.mv1 G34 (by (try dsimp only [V.In]); first | omega | grind)
 replace F3_ := F3_.mv1 G34 (by (try dsimp only [V.In]); first | omega | grind)
 have F9_ : Nd w33 k (fun j => M j ∨ (fun j => SO_1 j ∨ V.In w28.heap.size w29.heap.size j) j) (fun j => D j ∨ (fun j => (D_me j ∨ D_md j) ∨ V.In w9.heap.size w28.heap.size j) j) (tellV d to m) := ⟨⟨hid_1, hrg_1, hte_1, hco_1, hx0_1, hx1_1, hx2_1, hm0_1, hm1_1, hm2_1, hda_1⟩, _, _, _, _, _, _, _, _, _, _, _, _, hP_1.setO (y := w28.heap.size) (by omega) (by omega) (fun j h => h.imp id (fun h => ⟨h.1, by have := h.2; omega⟩)) (by intro j h; (try dsimp only [V.In] at h); have a1 := lm_1 j; have a2 := ld_1 j; have a4 := hMD j; grind) (fun j h => .inl h) (by omega), hc_1, Fk_1, FL_1, ⟨F3_, (Fc_1.mono2 (fun j h => .inl (.inl h)) (fun j h => h)), Fd_1.mono (fun j h => .inl h)⟩⟩
 refine V.doneN rfl ?_
 replace HG := HG.grow (g0_.trans G2_)
 replace HG := HG.stepE G3_ (by intro i h; (try dsimp only [V.In] at h ⊢); first | omega | grind)
 replace HG := HG.n1 G34 (by first | (refine Or.inr ?_; omega) | (refine Or.inl ?_; first | assumption | (dsimp only; grind)) | grind)
 exact ⟨_, _, (by first | rfl | simp only [List.length_set]), F9_, (by intro j h; (try dsimp only [V.In] at h); have a1 := hso j; grind), (by intro j h; (try dsimp only [V.In] at h); grind), HG⟩

set_option maxHeartbeats 4000000 in
set_option maxRecDepth 10000 in
theorem keep_spec {w : World} {k : Nat} {M D : Nat → Prop} {d : NodeV} (FX : Nd w k M D d) {kn : Int} {ix : Int} {tm : Int} {et : Int} {D_ed : Nat → Prop} {c_ed : Nat} {a_ed : Option Addr} {ed : List UInt8} (F_ed : Sl V.Cod.byte w D_ed a_ed c_ed ed) (hD_ed : ∀ k, D_ed k → k < w.heap.size) {D_dt : Nat → Prop} {c_dt : Nat} {a_dt : Option Addr} {dt : List UInt8} (F_dt : Sl V.Cod.byte w D_dt a_dt c_dt dt) (hD_dt : ∀ k, D_dt k → k < w.heap.size) (hMe : ∀ j, D_ed j → ¬ M j) (hMm : ∀ j, D_dt j → ¬ M j) (hs : d.nc + 1 ≤ 1000000) :
    Meets Try.prog 49 [.pointer (some ⟨k, 0, none⟩), .agg #[.int .i64 kn, .int .i64 ix, .int .i64 tm, .int .i64 et, .slice a_ed ed.length c_ed, .slice a_dt dt.length c_dt]] w fun r w' => ∃ (rM16 : Nat → Prop) (rD16 : Nat → Prop), r = .tuple #[] ∧ Nd w' k rM16 rD16 (keepV d) ∧ (∀ j, rM16 j → M j ∨ w.heap.size ≤ j) ∧ (∀ j, rD16 j → D j ∨ M j ∨ D_ed j ∨ D_dt j ∨ w.heap.size ≤ j) ∧ V.FrE M w w' := by
 have hM := FX.lm
 have hk0 := FX.lm _ FX.mk'
 have hD := FX.ld
 have hMD := FX.dj
 have hMk := FX.mk'
 have HG := V.FrE.refl M w
 refine V.enter (n := 14) Try.func49 rfl rfl (by decide) rfl ?_
 refine V.seq ?_
 obtain ⟨kl_1, g_1, B_1, SO_1, SC_1, ad_1, cd_1, ao_1, co_1, ac_1, cc_1, ch_1, hP_1, hc_1, Fk_1, FL_1, FQ_1⟩ := FX.ex
 obtain ⟨hid_1, hrg_1, hte_1, hco_1, hx0_1, hx1_1, hx2_1, hm0_1, hm1_1, hm2_1, hda_1⟩ := FX.ok
 have nk_1 := hP_1.nk
 have nl_1 := hP_1.nl
 have ng_1 := hP_1.ng
 have kL_1 := hP_1.kL
 have lq_1 := hP_1.lq
 have bd_1 := hP_1.d
 obtain ⟨mk_1, ml_1, mg_1⟩ := hP_1.m
 have hA_1 := hP_1.a
 have lm_1 := hP_1.lm
 have ld_1 := hP_1.ld
 have hLo_1 := FL_1.ok
 have hLd_1 := FL_1.dl
 have hLg_1 := FL_1.gl
 have hLk_1 := FL_1.lt
 have hLb_1 := FL_1.bl
 have hkl_1 := Fk_1.lt
 clear FX
 obtain ⟨Fo_1, Fc_1, Fd_1⟩ := FQ_1
 have hso := hP_1.so
 have hsc := hP_1.sc
 have hbd := hP_1.d
 have hss := hP_1.c
 have hss2 : ∀ j, SC_1 j → ¬ SO_1 j := fun j h e => hss j e h
 refine V.region ?_
 refine V.box rfl rfl rfl rfl ?_
 rintro k2 w4 s6 s7 G5 Fk3
 have z8 := V.Fr.size G5
 try simp only [V.cellsL, V.spliceL] at Fk3
 refine V.nt ?_
 replace F_ed := F_ed.gr G5
 replace F_dt := F_dt.gr G5
 replace Fk_1 := Fk_1.gr G5
 replace FL_1 := FL_1.gr G5
 replace Fo_1 := Fo_1.gr G5
 replace Fc_1 := Fc_1.gr G5
 replace Fd_1 := Fd_1.gr G5
 replace HG := HG.grow G5
 refine V.drawMT 10 (fun w_ => V.FrE SC_1 w4 w_) (fun i => Nat.beq i 6 || Nat.beq i 7) (fun _ g_ => V.FrE.ofGr g_) mixed (by kernel_rfl) (by kernel_rfl) ?_
 refine V.mrun T_ok 4 rfl rfl ?_
 refine V.mloadO T_ok (fun w' g_ => V.Cells.mvE Fk_1 g_ (by (try dsimp only); first | omega | grind)) rfl rfl rfl rfl rfl rfl ?_
 refine V.mloadO T_ok (fun w' g_ => V.Cells.mvE Fk3 g_ (by (try dsimp only); first | omega | grind)) rfl rfl rfl rfl rfl rfl ?_
 refine V.mop (fun w1_ v_ w2_ => ∃ k_, v_ = .slice (some ⟨k_, 0, none⟩) 1 1 ∧ Gr w1_ w2_ ∧ Sl V.Cod.chg w2_ (fun j => (D_ed j ∨ D_dt j) ∨ V.In w4.heap.size w2_.heap.size j) (some ⟨k_, 0, none⟩) 1 [(kn, ix, tm, (et, ed), dt)]) rfl rfl rfl rfl (fun w' g_ h_ => ?_) ?_
 ·
  have z0_ := V.Fr.size h_
  refine V.mkSlice T_ok zero113 rfl rfl sz113 rfl rfl rfl rfl rfl rfl ?_
  rintro k2_ w2_ s1_ s2_ G2_ Fk_
  have z2_ := V.Fr.size G2_
  refine V.nil ?_
  exact ⟨rfl, (g_.trans (V.FrE.ofGr (X := fun _ => False) G2_)).mono (fun i h _ => h.elim id False.elim), k2_, rfl, G2_, V.Cells.sl (xs := [(kn, ix, tm, (et, ed), dt)]) Fk_ (V.reps_cons (x := (kn, ix, tm, (et, ed), dt)) ⟨_, _, rfl, rfl, ⟨_, _, rfl, rfl, ⟨_, _, rfl, rfl, ⟨_, _, rfl, ⟨_, _, rfl, rfl, ⟨_, _, rfl, ((F_ed.gr h_).gr G2_).mono (fun j h => .inl (.inl h))⟩⟩, ⟨_, _, rfl, ((F_dt.gr h_).gr G2_).mono (fun j h => .inl (.inr h))⟩⟩⟩⟩⟩ rfl rfl) (.inr ⟨by omega, by omega⟩) (by simp [maxLen])⟩
 rintro _ _ _ _ _ ⟨k9, rfl, -, -⟩
 refine V.mop (fun w1_ v_ w2_ => ∃ a_ c_, v_ = .slice a_ (ch_1 ++ [(kn, ix, tm, (et, ed), dt)]).length c_ ∧ V.FrE SC_1 w1_ w2_ ∧ V.RowE V.Cod.chg 113 w2_ (fun j => D j ∨ (fun j => (D_ed j ∨ D_dt j) ∨ V.In w4.heap.size w1_.heap.size j) j) (fun j => SC_1 j ∨ V.In w1_.heap.size w2_.heap.size j) a_ c_ (ch_1 ++ [(kn, ix, tm, (et, ed), dt)])) rfl rfl rfl rfl (fun w' g_ h_ => ?_) ?_
 ·
  obtain ⟨w1_, c1_, g0_, k2_, hk_, G2_, FS_⟩ := h_
  cases hk_
  have z0_ := V.Fr.size g0_
  have z2_ := V.Fr.size G2_
  refine V.appendZ ((Fc_1.gr g0_).gr G2_) (FS_.from Try.underlying89) elT89_89 rfl rfl rfl rfl rfl (by simp only [List.length_cons, List.length_nil]; omega) (by unfold maxLen; simp only [List.length_cons, List.length_nil]; omega) (by intro j h; (try dsimp only [V.In] at h); have a1 := lm_1 j; have a2 := ld_1 j; have a3 := hsc j; have a4 := hMD j; grind) (by intro j h; (try dsimp only [V.In] at h); have a1 := lm_1 j; have a2 := ld_1 j; have a3 := hsc j; have a4 := hMD j; grind) (by intro j h; (try dsimp only [V.In] at h); have a1 := lm_1 j; have a2 := ld_1 j; have a3 := hsc j; have a4 := hMD j; grind) ?_
  rintro a3_ c3_ w3_ G3_ z3_ F3_
  refine V.nil ?_
  exact ⟨rfl, (g_.trans G3_).mono (fun i h _ => h.elim id id), a3_, c3_, rfl, G3_, F3_⟩
 rintro _ _ _ _ _ ⟨a10, c11, rfl, -, -⟩
 refine V.mrun T_ok 2 rfl rfl ?_
 refine V.mnil ?_
 rintro w14 - ⟨w13, -, ⟨w12, -, g0_, k2_, hk_, G2_, FS_⟩, a3_, c3_, hv_, G3_, F3_⟩
 cases hk_; cases hv_
 clear FS_
 have z15 := V.Fr.size g0_
 have z16 := V.Fr.size G2_
 clear Fc_1
 have z17 := V.FrE.size G3_
 replace Fk_1 := Fk_1.gr (g0_.trans G2_)
 replace Fk_1 := Fk_1.mvE G3_ (by (try dsimp only [V.In]); first | omega | grind)
 refine V.storeO Fk_1 rfl rfl rfl rfl sz89 rfl rfl rfl rfl ?_
 rintro w18 G19 z21 Fs20
 clear Fk_1
 have z22 := V.Fr.size G19
 have Fk_1 := Fs20; clear Fs20
 simp only [V.spliceL, V.cellsL] at Fk_1
 refine V.nil ?_
 replace FL_1 := FL_1.gr (g0_.trans G2_)
 replace FL_1 := FL_1.mvE G3_ (by intro j h hd; (try dsimp only [V.In] at h hd ⊢); first | omega | grind)
 replace FL_1 := FL_1.mv1 G19 (by (try dsimp only [V.In]); first | omega | grind)
 replace Fo_1 := Fo_1.gr (g0_.trans G2_)
 replace Fo_1 := Fo_1.mvE G3_ (by intro j h hd; (try dsimp only [V.In] at h hd ⊢); first | omega | grind)
 replace Fo_1 := Fo_1.mv1 G19 (by (try dsimp only [V.In]); first | omega | grind)
 replace Fd_1 := Fd_1.gr (g0_.trans G2_)
 replace Fd_1 := Fd_1.mvE G3_ (by intro j h hd; (try dsimp only [V.In] at h hd ⊢); first | omega | grind)
 replace Fd_1 := Fd_1.mv1 G19 (by (try dsimp only [V.In]); first | omega | grind)
 replace F3_ := F3_.mv1 G19 (by (try dsimp only [V.In]); first | omega | grind)
 have F9_ : Nd w18 k (fun j => M j ∨ (fun j => SC_1 j ∨ V.In w13.heap.size w14.heap.size j) j) (fun j => D j ∨ (fun j => (D_ed j ∨ D_dt j) ∨ V.In w4.heap.size w13.heap.size j) j) (keepV d) := ⟨⟨hid_1, hrg_1, hte_1, hco_1, hx0_1, hx1_1, hx2_1, hm0_1, hm1_1, hm2_1, hda_1⟩, _, _, _, _, _, _, _, _, _, _, _, _, hP_1.setC (y := w13.heap.size) (by omega) (by omega) (fun j h => h.imp id (fun h => ⟨h.1, by have := h.2; omega⟩)) (by intro j h; (try dsimp only [V.In] at h); have a1 := lm_1 j; have a2 := ld_1 j; have a4 := hMD j; grind) (fun j h => .inl h) (by omega), (by have := hc_1; show (_ : Nat) ≤ d.nc + 1; simp only [List.length_append, List.length_cons, List.length_nil]; omega), Fk_1, FL_1, ⟨(Fo_1.mono2 (fun j h => .inl (.inl h)) (fun j h => h)), F3_, Fd_1.mono (fun j h => .inl h)⟩⟩
 refine V.doneN rfl ?_
 replace HG := HG.grow (g0_.trans G2_)
 replace HG := HG.stepE G3_ (by intro i h; (try dsimp only [V.In] at h ⊢); first | omega | grind)
 replace HG := HG.n1 G19 (by first | (refine Or.inr ?_; omega) | (refine Or.inl ?_; first | assumption | (dsimp only; grind)) | grind)
 exact ⟨_, _, (by first | rfl | simp only [List.length_set]), F9_, (by intro j h; (try dsimp only [V.In] at h); have a1 := hsc j; grind), (by intro j h; (try dsimp only [V.In] at h); grind), HG⟩

end Go.Proofs.Ytphohfpbdkgnaaa
