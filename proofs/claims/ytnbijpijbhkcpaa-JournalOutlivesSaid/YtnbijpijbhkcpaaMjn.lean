/- Proved here: walks: what functions of this seat's program return and what they leave of memory, each as a contract. Conditions: stated at each theorem. -/
import Derived.Test.YtnbijpijbhkcpaaMd
namespace Go.Proofs.Ytnbijpijbhkcpaa
set_option linter.unusedVariables false
set_option linter.unusedSimpArgs false
open Go
open V (Bytes Meets Env Sl Own Gr Fr Cells S)
/-! ### A journal, in plain words -/
/-- a journal: base, data, records, three numbers -/
structure JV where
  base : Int
  data : List UInt8
  l : List (List UInt8)
  t : Int
  v : Int
  b : Int
def recV (j : JV) (x : List UInt8) : Option JV := if (rdT x 65536).1.2 = 0 ∧ (rdT x 65536).2 = [] then some { j with l := j.l ++ [(rdT x 65536).1.1] } else none
def cutV (j : JV) (x : List UInt8) : Option JV := if (rdN x 1099511627776).1.2 = 0 ∧ (rdN x 1099511627776).2 = [] ∧ (rdN x 1099511627776).1.1 ≤ j.l.length then some { j with l := j.l.take (rdN x 1099511627776).1.1.toNat } else none
def basL (j : JV) (n : Int) : List (List UInt8) := if n < j.base ∨ j.base + j.l.length < n then [] else j.l.drop (n - j.base).toNat
def basV (j : JV) (x : List UInt8) : Option JV :=
  if (rdN x 1099511627776).1.2 = 0 ∧ (rdT (rdN x 1099511627776).2 65536).1.2 = 0 ∧ (rdT (rdN x 1099511627776).2 65536).2 = [] then
    some { j with base := (rdN x 1099511627776).1.1, data := (rdT (rdN x 1099511627776).2 65536).1.1, l := basL j (rdN x 1099511627776).1.1 }
  else none
/-- a change, done -/
def takeV (j : JV) (x : List UInt8) : Option JV :=
  if (rdN x 3).1.2 = 0 then
    (if (rdN x 3).1.1 = 1 then recV j (rdN x 3).2 else if (rdN x 3).1.1 = 2 then cutV j (rdN x 3).2 else if (rdN x 3).1.1 = 3 then basV j (rdN x 3).2 else none)
  else none
theorem rdN_range (d : List UInt8) (m : Int) (hm : 0 ≤ m) : (0 ≤ (rdN d m).1.1 ∧ (rdN d m).1.1 ≤ m) ∧ ((rdN d m).1.2 = 0 ∨ (rdN d m).1.2 = 11 ∧ (rdN d m).1.1 = 0) := by
  unfold rdN
  split
  · exact ⟨⟨Int.le_refl _, hm⟩, .inr ⟨rfl, rfl⟩⟩
  · rename_i h
    exact ⟨⟨Int.natCast_nonneg _, by dsimp only; omega⟩, .inl rfl⟩
theorem rdT_max (d : List UInt8) (m : Int) (hm : 0 ≤ m) : ((rdT d m).1.1.length : Int) ≤ m := by
  unfold rdT
  split
  · exact hm
  · rename_i h
    dsimp only
    rw [List.length_take]
    omega
theorem takeV_no {j : JV} {x : List UInt8} (h : ¬ (rdN x 3).1.2 = 0) : takeV j x = none := by unfold takeV; rw [if_neg h]
theorem takeV_0 {j : JV} {x : List UInt8} (h : (rdN x 3).1.1 = 0) : takeV j x = none := by unfold takeV; rw [h]; split <;> rfl
theorem takeV_1 {j : JV} {x : List UInt8} (h : (rdN x 3).1.2 = 0) (h1 : (rdN x 3).1.1 = 1) : takeV j x = recV j (rdN x 3).2 := by unfold takeV; rw [if_pos h, if_pos h1]
theorem takeV_2 {j : JV} {x : List UInt8} (h : (rdN x 3).1.2 = 0) (h1 : (rdN x 3).1.1 = 2) : takeV j x = cutV j (rdN x 3).2 := by unfold takeV; rw [if_pos h, if_neg (by omega), if_pos h1]
theorem takeV_3 {j : JV} {x : List UInt8} (h : (rdN x 3).1.2 = 0) (h1 : (rdN x 3).1.1 = 3) : takeV j x = basV j (rdN x 3).2 := by unfold takeV; rw [if_pos h, if_neg (by omega), if_neg (by omega), if_pos h1]
structure JOk (j : JV) : Prop where
  b0 : 0 ≤ j.base
  b1 : j.base ≤ 1099511627776
  ll : j.l.length ≤ 1000000
  dl : j.data.length ≤ 65536
  el : ∀ x ∈ j.l, x.length ≤ 65536
theorem recV_ok {j j' : JV} {x : List UInt8} (h : JOk j) (hl : j.l.length + 1 ≤ 1000000) (he : recV j x = some j') : JOk j' := by
  unfold recV at he
  split at he <;> simp only [Option.some.injEq, reduceCtorEq] at he
  subst he
  have := rdT_max x 65536 (by decide)
  refine ⟨h.b0, h.b1, by simpa using hl, h.dl, fun y hy => ?_⟩
  rcases List.mem_append.1 hy with h1 | h1
  · exact h.el y h1
  · rw [List.mem_singleton.1 h1]; omega
theorem cutV_ok {j j' : JV} {x : List UInt8} (h : JOk j) (he : cutV j x = some j') : JOk j' := by
  unfold cutV at he
  split at he <;> simp only [Option.some.injEq, reduceCtorEq] at he
  subst he
  have := h.ll
  exact ⟨h.b0, h.b1, by dsimp only; rw [List.length_take]; omega, h.dl, fun y hy => h.el y (List.mem_of_mem_take hy)⟩
theorem basL_len (j : JV) (n : Int) : (basL j n).length ≤ j.l.length := by
  unfold basL
  split
  · exact Nat.zero_le _
  · rw [List.length_drop]; omega
theorem basL_mem {j : JV} {n : Int} {y : List UInt8} (h : y ∈ basL j n) : y ∈ j.l := by
  unfold basL at h
  split at h
  · cases h
  · exact List.mem_of_mem_drop h
theorem basV_ok {j j' : JV} {x : List UInt8} (h : JOk j) (he : basV j x = some j') : JOk j' := by
  unfold basV at he
  split at he <;> simp only [Option.some.injEq, reduceCtorEq] at he
  subst he
  have h1 := rdT_max (rdN x 1099511627776).2 65536 (by decide)
  have h2 := (rdN_range x 1099511627776 (by decide)).1
  have h3 := basL_len j (rdN x 1099511627776).1.1
  have h4 := h.ll
  exact ⟨h2.1, h2.2, by dsimp only; omega, by dsimp only; omega, fun y hy => h.el y (basL_mem hy)⟩
theorem takeV_ok {j j' : JV} {x : List UInt8} (h : JOk j) (hl : j.l.length + 1 ≤ 1000000) (he : takeV j x = some j') : JOk j' ∧ j'.l.length ≤ j.l.length + 1 := by
  unfold takeV at he
  split at he
  · split at he
    · refine ⟨recV_ok h hl he, ?_⟩
      unfold recV at he
      split at he <;> simp only [Option.some.injEq, reduceCtorEq] at he
      subst he
      simp
    · split at he
      · refine ⟨cutV_ok h he, ?_⟩
        unfold cutV at he
        split at he <;> simp only [Option.some.injEq, reduceCtorEq] at he
        subst he
        dsimp only
        rw [List.length_take]; omega
      · split at he
        · refine ⟨basV_ok h he, ?_⟩
          unfold basV at he
          split at he <;> simp only [Option.some.injEq, reduceCtorEq] at he
          subst he
          have := basL_len j (rdN (rdN x 3).2 1099511627776).1.1
          dsimp only
          omega
        · cases he
  · cases he
/-- changes, done one behind another up to the first that is none: what they make, and how many bytes their frames have -/
def runV : JV → List (List UInt8) → JV × Nat
  | j, [] => (j, 0)
  | j, x :: l => match takeV j x with
    | none => (j, 0)
    | some j' => ((runV j' l).1, 8 + x.length + (runV j' l).2)
/-- a cell's numbers -/
def hardV (c : List UInt8) : Option (Int × Int × Int) :=
  if c = [] then some (0, 0, 0)
  else if (wholeB c).2 = 0 ∧ (rdN (wholeB c).1 1099511627776).1.2 = 0 ∧ (rdN (rdN (wholeB c).1 1099511627776).2 1099511627776).1.2 = 0 ∧ (rdN (rdN (rdN (wholeB c).1 1099511627776).2 1099511627776).2 1099511627776).1.2 = 0 ∧ (rdN (rdN (rdN (wholeB c).1 1099511627776).2 1099511627776).2 1099511627776).2 = [] then
    some ((rdN (wholeB c).1 1099511627776).1.1, (rdN (rdN (wholeB c).1 1099511627776).2 1099511627776).1.1, (rdN (rdN (rdN (wholeB c).1 1099511627776).2 1099511627776).2 1099511627776).1.1)
  else none
/-- what is opened of a disk, and the disk then -/
def openV (d : DiskV) : Option (JV × DiskV) := match hardV d.nc with
  | none => none
  | some (t, v, b) => some ((runV ⟨0, [], [], t, v, b⟩ (scanB d.nf).1).1, if (runV ⟨0, [], [], t, v, b⟩ (scanB d.nf).1).2 < d.nf.length then dSync (dCut d ((runV ⟨0, [], [], t, v, b⟩ (scanB d.nf).1).2 : Int)) else d)
/-- a change, appended and done: the journal, the disk, the error -/
def doesJ (j : JV) (d : DiskV) (x : List UInt8) : JV := if (frmB x).2 = 0 ∧ eAppend d (frmB x).1 = 0 then (takeV j x).getD j else j
def doesD (d : DiskV) (x : List UInt8) : DiskV := if (frmB x).2 = 0 then dAppend d (frmB x).1 else d
def doesE (j : JV) (d : DiskV) (x : List UInt8) : Int := if (frmB x).2 = 0 ∧ eAppend d (frmB x).1 = 0 ∧ (takeV j x).isSome = true then 0 else 71
/-! ### A journal in the heap -/
/-- at block k a journal of the disk kd; its blocks are E's -/
structure Jn (w : World) (k kd : Nat) (E : Nat → Prop) (j : JV) : Prop where
  ok : JOk j
  lt : ∀ i, E i → i < w.heap.size
  ex : ∃ (S B : Nat → Prop) (a : Option Addr) (c : Nat) (ad : Option Addr) (cd : Nat), ((¬ S k ∧ ¬ B k) ∧ (∀ i, S i → ¬ B i)) ∧ (∀ i, (i = k ∨ S i ∨ B i) → E i) ∧
    Cells w k [.pointer (some ⟨kd, 0, none⟩), .int .i64 j.base, .slice ad j.data.length cd, .slice a j.l.length c, .int .i64 j.t, .int .i64 j.v, .int .i64 j.b] 77 ∧ V.RowW V.Cod.byte.sl 22 w V.None' S a c j.l ∧ Bytes w B ad cd j.data
section
variable {w w' : World} {k kd : Nat} {E E' X : Nat → Prop} {j : JV}
theorem Jn.gr (h : Jn w k kd E j) (f : Gr w w') : Jn w' k kd E j :=
  let ⟨S, B, a, c, ad, cd, h1, h2, h3, h4, h5⟩ := h.ex; ⟨h.ok, fun i hi => Nat.lt_of_lt_of_le (h.lt i hi) f.size, S, B, a, c, ad, cd, h1, h2, h3.gr f, h4.gr f, h5.gr f⟩
theorem Jn.mvE (h : Jn w k kd E j) (f : V.FrE X w w') (hn : ∀ i, X i → ¬ E i) : Jn w' k kd E j :=
  let ⟨S, B, a, c, ad, cd, h1, h2, h3, h4, h5⟩ := h.ex
  ⟨h.ok, fun i hi => Nat.lt_of_lt_of_le (h.lt i hi) f.size, S, B, a, c, ad, cd, h1, h2, h3.mvE f (fun hX => hn k hX (h2 k (.inl rfl))), h4.mvE f (fun i hi hS => hn i hi (h2 i (hS.elim (fun h => h.elim) (fun h => .inr (.inl h))))), h5.mvE f (fun i hi hB => hn i hi (h2 i (.inr (.inr hB))))⟩
theorem Jn.mv1 {i : Nat} (h : Jn w k kd E j) (f : Fr [i] w w') (hn : ¬ E i) : Jn w' k kd E j := h.mvE (X := fun j => j = i) (V.FrE.of1 f rfl) (fun j hj => hj ▸ hn)
theorem Jn.bl1 {b : Nat} (h : Jn w k kd E j) (f : V.Bl b w w') (hn : ∀ j, E j → j < b) : Jn w' k kd E j :=
  let ⟨S, B, a, c, ad, cd, h1, h2, h3, h4, h5⟩ := h.ex
  ⟨h.ok, fun i hi => Nat.lt_of_lt_of_le (h.lt i hi) f.size, S, B, a, c, ad, cd, h1, h2, h3.bl f (hn k (h2 k (.inl rfl))), h4.bl f (fun i hS => hn i (h2 i (hS.elim (fun h => h.elim) (fun h => .inr (.inl h))))), h5.bl f (fun i hB => hn i (h2 i (.inr (.inr hB))))⟩
theorem Jn.mono (h : Jn w k kd E j) (h1 : ∀ i, E i → E' i) (h2 : ∀ i, E' i → i < w.heap.size) : Jn w k kd E' j :=
  let ⟨S, B, a, c, ad, cd, h3, h4, h5⟩ := h.ex; ⟨h.ok, h2, S, B, a, c, ad, cd, h3, fun i hi => h1 i (h4 i hi), h5⟩
theorem Jn.klt (h : Jn w k kd E j) : k < w.heap.size := let ⟨_, _, _, _, _, _, _, _, h1, _, _⟩ := h.ex; h1.lt
theorem Jn.ek (h : Jn w k kd E j) : E k := let ⟨_, _, _, _, _, _, _, h1, _⟩ := h.ex; h1 k (.inl rfl)
theorem Jn.mk2 {S B : Nat → Prop} {a : Option Addr} {c : Nat} {ad : Option Addr} {cd : Nat} (h3 : Cells w k [.pointer (some ⟨kd, 0, none⟩), .int .i64 j.base, .slice ad j.data.length cd, .slice a j.l.length c, .int .i64 j.t, .int .i64 j.v, .int .i64 j.b] 77) (h4 : V.RowW V.Cod.byte.sl 22 w V.None' S a c j.l) (h5 : Bytes w B ad cd j.data)
    (ok : JOk j) (lt : ∀ i, E i → i < w.heap.size) (h1 : (¬ S k ∧ ¬ B k) ∧ (∀ i, S i → ¬ B i)) (h2 : ∀ i, (i = k ∨ S i ∨ B i) → E i) : Jn w k kd E j := ⟨ok, lt, S, B, a, c, ad, cd, h1, h2, h3, h4, h5⟩
end
theorem Rd.mvE {w w' : World} {k : Nat} {D X : Nat → Prop} {d : List UInt8} (h : Rd w k D d) (f : V.FrE X w w') (hn : ∀ j, X j → ¬ (j = k ∨ D j)) : Rd w' k D d := let ⟨a, c, h1, h2⟩ := h.ex; ⟨h.nk, a, c, h1.mvE f (fun h => hn k h (.inl rfl)), h2.mvE f (fun j h hd => hn j h (.inr hd))⟩

set_option maxHeartbeats 900000 in
set_option maxRecDepth 10000 in
theorem jlast_spec {w : World} {k kd : Nat} {E : Nat → Prop} {jv : JV} (FX : Jn w k kd E jv)   :
    Meets Try.prog 37 [.pointer (some ⟨k, 0, none⟩)] w fun r w' => r = .int .i64 (jv.base + jv.l.length) ∧ Gr w w' := by
 have FX0 := FX
 obtain ⟨SS, BB, aL, cL, aD, cD, ⟨⟨hkS, hkB⟩, hSB⟩, hEE, Fk, FL, Fd⟩ := FX.ex
 have hlt := FX.lt
 have hok := FX.ok
 obtain ⟨hb0, hb1, hll, hdl, hel⟩ := hok
 have hkl := Fk.lt
 have hEk : E k := hEE k (.inl rfl)
 have hSE : ∀ i, SS i → E i := fun i h => hEE i (.inr (.inl h))
 have hBE : ∀ i, BB i → E i := fun i h => hEE i (.inr (.inr h))
 have hSl : ∀ i, SS i → i < w.heap.size := fun i h => hlt i (hSE i h)
 have hBl : ∀ i, BB i → i < w.heap.size := fun i h => hlt i (hBE i h)
 have hl63 := FL.slB.len63
 have HG := V.Fr.refl [] w
 refine V.enter (n := 15) Try.func37 rfl rfl (by decide) rfl ?_
 refine V.seq ?_
 refine V.region ?_
 refine V.run T_ok 1 rfl ?_
 refine V.nil ?_
 refine V.tN ?_
 refine V.seq ?_
 refine V.seq ?_
 refine V.region ?_
 refine V.run T_ok 2 rfl ?_
 refine V.nil ?_
 refine V.tN ?_
 refine V.condN rfl rfl ?_
 refine V.skip ?_
 refine V.tN ?_
 refine V.seq ?_
 refine V.drawQ mixed (by kernel_rfl) ?_
 refine V.qrun T_ok 3 rfl ?_
 refine V.qloadO T_ok Fk rfl rfl rfl rfl rfl ?_
 refine V.qrun T_ok 3 rfl ?_
 refine V.qloadO T_ok Fk rfl rfl rfl rfl rfl ?_
 refine V.qrun T_ok 1 rfl ?_
 refine V.qaddN rfl rfl rfl rfl rfl (by first | omega | (simp only [List.length_take, List.length_drop, List.length_append, List.length_cons, List.length_nil, List.length_replicate, List.length_set, V.length_data, V.S_size]; omega)) (by first | omega | (simp only [List.length_take, List.length_drop, List.length_append, List.length_cons, List.length_nil, List.length_replicate, List.length_set, V.length_data, V.S_size]; omega)) ?_
 refine V.qrun T_ok 1 rfl ?_
 refine V.qnil ?_
 rintro w1 G2
 have z3 := V.Fr.size G2
 try replace Fk := Fk.gr G2
 try replace FL := FL.gr G2
 try replace Fd := Fd.gr G2
 try replace FX := FX.gr G2
 replace HG := HG.grow G2
 clear G2
 refine V.tN ?_
 refine V.ret ?_
 refine V.done rfl ?_
 exact ⟨(by first | rfl | simp only [List.length_set]), HG⟩

set_option maxHeartbeats 900000 in
set_option maxRecDepth 10000 in
theorem jlast_nil {w : World}    :
    Meets Try.prog 37 [.pointer none] w fun r w' => r = .int .i64 0 ∧ Gr w w' := by
 have HG := V.Fr.refl [] w
 refine V.enter (n := 15) Try.func37 rfl rfl (by decide) rfl ?_
 refine V.seq ?_
 refine V.region ?_
 refine V.run T_ok 1 rfl ?_
 refine V.nil ?_
 refine V.tN ?_
 refine V.seq ?_
 refine V.seq ?_
 refine V.region ?_
 refine V.run T_ok 2 rfl ?_
 refine V.nil ?_
 refine V.tN ?_
 refine V.condY rfl rfl ?_
 refine V.seq ?_
 refine V.region ?_
 refine V.run T_ok 1 rfl ?_
 refine V.nil ?_
 refine V.tN ?_
 refine V.ret ?_
 refine V.tR ?_
 refine V.done rfl ?_
 exact ⟨(by first | rfl | simp only [List.length_set]), HG⟩

set_option maxHeartbeats 900000 in
set_option maxRecDepth 10000 in
theorem takeRecord_spec {w : World} {k kd kr : Nat} {E Dr : Nat → Prop} {jv : JV} {x : List UInt8} (FX : Jn w k kd E jv) (FR : Rd w kr Dr x)  (hr : ¬ E kr) (hs : jv.l.length + 1 ≤ 1000000) :
    Meets Try.prog 82 [.pointer (some ⟨k, 0, none⟩), .pointer (some ⟨kr, 0, none⟩)] w fun r w' => r = .bool ((recV jv x).isSome) ∧ Jn w' k kd (fun i => E i ∨ V.In w.heap.size w'.heap.size i) ((recV jv x).getD jv) ∧ V.FrE (fun i => E i ∨ i = kr) w w' := by
 have FX0 := FX
 obtain ⟨SS, BB, aL, cL, aD, cD, ⟨⟨hkS, hkB⟩, hSB⟩, hEE, Fk, FL, Fd⟩ := FX.ex
 have hlt := FX.lt
 have hok := FX.ok
 obtain ⟨hb0, hb1, hll, hdl, hel⟩ := hok
 have hkl := Fk.lt
 have hEk : E k := hEE k (.inl rfl)
 have hSE : ∀ i, SS i → E i := fun i h => hEE i (.inr (.inl h))
 have hBE : ∀ i, BB i → E i := fun i h => hEE i (.inr (.inr h))
 have hSl : ∀ i, SS i → i < w.heap.size := fun i h => hlt i (hSE i h)
 have hBl : ∀ i, BB i → i < w.heap.size := fun i h => hlt i (hBE i h)
 have hl63 := FL.slB.len63
 have hkr := FR.lt
 have hnk := FR.nk
 have hrk : kr ≠ k := fun h => hr (h ▸ hEk)
 have hrS : ¬ SS kr := fun h => hr (hSE _ h)
 have hrB : ¬ BB kr := fun h => hr (hBE _ h)
 have HG := V.FrE.refl (fun i => E i ∨ i = kr) w
 refine V.enter (n := 30) Try.func82 rfl rfl (by decide) rfl ?_
 refine V.seq ?_
 refine V.region ?_
 refine V.run T_ok 1 rfl ?_
 refine V.nil ?_
 refine V.tN ?_
 refine V.seq ?_
 refine V.region ?_
 refine V.run T_ok 1 rfl ?_
 refine V.call (rd_text (most := 65536) FR) rfl rfl rfl ?_
 rintro _ w2 ⟨rfl, F1, G3⟩
 have z4 := V.Fr.size G3
 try replace Fk := Fk.ma G3
 first | replace FL := FL.mv1 G3 (by (try dsimp only [V.In]); first | omega | grind) | clear FL | skip
 first | replace Fd := Fd.mv1 G3 (by (try dsimp only [V.In]); first | omega | grind) | clear Fd | skip
 first | replace FX := FX.mv1 G3 (by (try dsimp only [V.In]); first | omega | grind) | clear FX | skip
 try replace FR := FR.ma G3
 replace HG := HG.n1 G3
 clear G3
 refine V.run T_ok 5 rfl ?_
 refine V.nil ?_
 refine V.tN ?_
 refine V.seq ?_
 refine V.seq ?_
 refine V.region ?_
 refine V.run T_ok 3 rfl ?_
 refine V.split (j := 2) (t := 14) rfl rfl (fun g2_2 => ?_) (fun g2_2 => ?_)
 ·
  try replace g2_2 := V.dec g2_2
  try simp only [V.mk0, V.mk1, V.mk2, V.mk3] at g2_2
  refine V.run T_ok 4 rfl ?_
  refine V.nil ?_
  refine V.tN ?_
  refine V.condY rfl rfl ?_
  refine V.seq ?_
  refine V.region ?_
  refine V.run T_ok 1 rfl ?_
  refine V.nil ?_
  refine V.tN ?_
  refine V.ret ?_
  refine V.tR ?_
  have hno : recV jv x = none := by unfold recV; rw [if_neg (by grind)]
  rw [hno]
  have FX9 := FX.mono (E' := (fun i => E i ∨ V.In w.heap.size w2.heap.size i)) (by intro i h; (try dsimp only [V.In] at h ⊢); first | omega | grind) (by intro i h; (try dsimp only [V.In] at h ⊢); first | omega | grind)
  refine V.done rfl ?_
  exact ⟨(by first | rfl | simp only [List.length_set]), FX9, HG⟩
 ·
  try replace g2_2 := V.dec g2_2
  try simp only [V.mk0, V.mk1, V.mk2, V.mk3] at g2_2
  refine V.run T_ok 1 rfl ?_
  refine V.yes rfl rfl rfl ?_
  refine V.call (rd_end F1) rfl rfl rfl ?_
  rintro _ w2_ ⟨rfl, rfl⟩
  refine V.run T_ok 2 rfl ?_
  refine V.nil ?_
  refine V.tN ?_
  refine V.condT rfl (fun h2 => ?_) (fun h2 => ?_)
  ·
   try replace h2 := V.dec h2
   try simp only [V.mk0, V.mk1, V.mk2, V.mk3] at h2
   refine V.seq ?_
   refine V.region ?_
   refine V.run T_ok 1 rfl ?_
   refine V.nil ?_
   refine V.tN ?_
   refine V.ret ?_
   refine V.tR ?_
   have hno : recV jv x = none := by unfold recV; rw [if_neg (by grind)]
   rw [hno]
   have FX9 := FX.mono (E' := (fun i => E i ∨ V.In w.heap.size w2.heap.size i)) (by intro i h; (try dsimp only [V.In] at h ⊢); first | omega | grind) (by intro i h; (try dsimp only [V.In] at h ⊢); first | omega | grind)
   refine V.done rfl ?_
   exact ⟨(by first | rfl | simp only [List.length_set]), FX9, HG⟩
  ·
   try replace h2 := V.dec h2
   try simp only [V.mk0, V.mk1, V.mk2, V.mk3] at h2
   refine V.skip ?_
   refine V.tN ?_
   refine V.seq ?_
   have hxm := rdT_max x 65536 (by decide)
   refine V.region ?_
   refine V.run T_ok 4 rfl ?_
   refine V.loadO T_ok Fk rfl rfl rfl rfl rfl ?_
   refine V.run T_ok 1 rfl ?_
   refine V.ofStr Try.underlying9 Try.underlying22 Try.underlying5 rfl rfl rfl rfl (by (unfold maxLen; rw [V.S_size]; omega)) ?_
   rintro a6 c7 w9 G10 s11 F8
   have z12 := V.Fr.size G10
   try replace Fk := Fk.gr G10
   try replace FL := FL.gr G10
   try replace Fd := Fd.gr G10
   try replace FX := FX.gr G10
   try replace F1 := F1.gr G10
   replace HG := HG.grow G10
   clear G10
   refine V.mkSlice T_ok zero22 rfl rfl sz22 rfl rfl rfl rfl rfl rfl ?_
   rintro k13 w16 s18 s19 G17 Fk14
   have z20 := V.Fr.size G17
   try replace Fk := Fk.gr G17
   try replace FL := FL.gr G17
   try replace Fd := Fd.gr G17
   try replace FX := FX.gr G17
   try replace F1 := F1.gr G17
   try replace F8 := F8.gr G17
   replace HG := HG.grow G17
   clear G17
   have F15 : Sl V.Cod.byte.sl w16 (fun k => k = k13 ∨ (V.In w2.heap.size w9.heap.size) k) (some ⟨k13, 0, none⟩) ([(S (rdT x (65536 : Int)).1.1).data.toList] : List (List UInt8)).length ([(S (rdT x (65536 : Int)).1.1).data.toList] : List (List UInt8)) := V.Cells.sl Fk14 (V.reps_cons (x := ((S (rdT x (65536 : Int)).1.1).data.toList)) ⟨_, _, rfl, F8.mono (fun k h => .inr (h))⟩ rfl rfl) (.inl rfl) (by simp [maxLen])
   have hDu21 : ∀ k, (fun k => k = k13 ∨ (V.In w2.heap.size w9.heap.size) k) k → k < w16.heap.size := by intro k h; (try dsimp only at h); rcases h with h | h <;> first | omega | (have := h.2; omega) | (have := h.1; omega) | (have := hD k h; omega)
   refine V.appendZW FL (F15.from Try.underlying54) elT54_54 rfl rfl rfl rfl rfl (by first | omega | (simp only [List.length_take, List.length_drop, List.length_append, List.length_cons, List.length_nil, List.length_replicate, List.length_set, V.length_data, V.S_size]; omega)) (by unfold maxLen; first | omega | (simp only [List.length_take, List.length_drop, List.length_append, List.length_cons, List.length_nil, List.length_replicate, List.length_set, V.length_data, V.S_size]; omega)) (by intro k h; (try dsimp only [V.In] at h ⊢); first | omega | grind) (fun _ h => h.elim) (by intro k h; (try dsimp only [V.In] at h ⊢); first | omega | grind) ?_
   rintro a22 c23 w25 G26 s27 F24
   clear FL
   clear F15
   have z28 := V.FrE.size G26
   first | replace Fk := Fk.mvE G26 (by (try dsimp only [V.In]); first | omega | grind) | clear Fk | skip
   first | replace Fd := Fd.mvE G26 (by intro j h hd; (try dsimp only [V.In] at h hd ⊢); first | omega | grind) | clear Fd | skip
   first | replace FX := FX.mvE G26 (by intro j h hd; (try dsimp only [V.In] at h hd ⊢); first | omega | grind) | clear FX | skip
   first | replace F1 := F1.mvE G26 (by intro j h hd; (try dsimp only [V.In] at h hd ⊢); first | omega | grind) | clear F1 | skip
   first | replace F8 := F8.mvE G26 (by intro j h hd; (try dsimp only [V.In] at h hd ⊢); first | omega | grind) | clear F8 | skip
   first | replace Fk14 := Fk14.mvE G26 (by (try dsimp only [V.In]); first | omega | grind) | clear Fk14 | skip
   replace HG := HG.stepE G26 (by intro i h; (try dsimp only [V.In] at h ⊢); first | omega | grind)
   clear G26
   replace F24 := F24.mono2 (B' := V.None') (E' := (fun j => SS j ∨ V.In w2.heap.size w25.heap.size j)) (by intro k h; (first | exact (h.elim (fun h => h.elim) (fun h => h.elim)) | ((try dsimp only [V.In] at h ⊢); first | omega | grind))) (by intro k h; (try dsimp only [V.In] at h ⊢); first | omega | grind)
   refine V.run T_ok 2 rfl ?_
   refine V.storeO Fk rfl rfl rfl rfl sz54 rfl rfl rfl rfl ?_
   rintro w29 G30 z32 Fs31
   clear Fk
   have z33 := V.Fr.size G30
   first | replace Fd := Fd.mv1 G30 (by (try dsimp only [V.In]); first | omega | grind) | clear Fd | skip
   first | replace FX := FX.mv1 G30 (by (try dsimp only [V.In]); first | omega | grind) | clear FX | skip
   try replace F1 := F1.ma G30
   try replace F8 := F8.ma G30
   try replace Fk14 := Fk14.ma G30
   first | replace F24 := F24.mv1 G30 (by (try dsimp only [V.In]); first | omega | grind) | clear F24 | skip
   replace HG := HG.n1 G30
   clear G30
   have Fk := Fs31; clear Fs31
   simp only [V.spliceL, V.cellsL] at Fk
   refine V.nil ?_
   refine V.tN ?_
   refine V.seq ?_
   refine V.region ?_
   refine V.run T_ok 1 rfl ?_
   refine V.nil ?_
   refine V.tN ?_
   refine V.ret ?_
   have hyes : recV jv x = some { jv with l := jv.l ++ [(rdT x 65536).1.1] } := by unfold recV; rw [if_pos (by grind)]
   have hok9 := recV_ok FX0.ok hs hyes
   rw [hyes]
   have FX9 := Jn.mk2 (E := (fun i => E i ∨ V.In w.heap.size w29.heap.size i)) (j := ⟨jv.base, jv.data, (jv.l ++ ([(S (rdT x (65536 : Int)).1.1).data.toList] : List (List UInt8))), jv.t, jv.v, jv.b⟩) Fk F24 Fd hok9 (by intro i h; first | exact h.elim | ((try dsimp only [V.In] at h ⊢); first | omega | grind)) ⟨⟨by (try dsimp only [V.In]); first | omega | grind, by (try dsimp only [V.In]); first | omega | grind⟩, by intro i h; first | exact h.elim | ((try dsimp only [V.In] at h ⊢); first | omega | grind)⟩ (by intro i h; first | exact h.elim | ((try dsimp only [V.In] at h ⊢); first | omega | grind))
   refine V.done rfl ?_
   exact ⟨(by first | rfl | simp only [List.length_set]), FX9, HG⟩

set_option maxHeartbeats 900000 in
set_option maxRecDepth 10000 in
theorem takeCut_spec {w : World} {k kd kr : Nat} {E Dr : Nat → Prop} {jv : JV} {x : List UInt8} (FX : Jn w k kd E jv) (FR : Rd w kr Dr x)  (hr : ¬ E kr) :
    Meets Try.prog 83 [.pointer (some ⟨k, 0, none⟩), .pointer (some ⟨kr, 0, none⟩)] w fun r w' => r = .bool ((cutV jv x).isSome) ∧ Jn w' k kd (fun i => E i ∨ V.In w.heap.size w'.heap.size i) ((cutV jv x).getD jv) ∧ V.FrE (fun i => E i ∨ i = kr) w w' := by
 have FX0 := FX
 obtain ⟨SS, BB, aL, cL, aD, cD, ⟨⟨hkS, hkB⟩, hSB⟩, hEE, Fk, FL, Fd⟩ := FX.ex
 have hlt := FX.lt
 have hok := FX.ok
 obtain ⟨hb0, hb1, hll, hdl, hel⟩ := hok
 have hkl := Fk.lt
 have hEk : E k := hEE k (.inl rfl)
 have hSE : ∀ i, SS i → E i := fun i h => hEE i (.inr (.inl h))
 have hBE : ∀ i, BB i → E i := fun i h => hEE i (.inr (.inr h))
 have hSl : ∀ i, SS i → i < w.heap.size := fun i h => hlt i (hSE i h)
 have hBl : ∀ i, BB i → i < w.heap.size := fun i h => hlt i (hBE i h)
 have hl63 := FL.slB.len63
 have hkr := FR.lt
 have hnk := FR.nk
 have hrk : kr ≠ k := fun h => hr (h ▸ hEk)
 have hrS : ¬ SS kr := fun h => hr (hSE _ h)
 have hrB : ¬ BB kr := fun h => hr (hBE _ h)
 have HG := V.FrE.refl (fun i => E i ∨ i = kr) w
 refine V.enter (n := 38) Try.func83 rfl rfl (by decide) rfl ?_
 refine V.seq ?_
 refine V.region ?_
 refine V.run T_ok 1 rfl ?_
 refine V.nil ?_
 refine V.tN ?_
 refine V.seq ?_
 refine V.region ?_
 refine V.run T_ok 1 rfl ?_
 refine V.call (rd_number (most := 1099511627776) FR) rfl rfl rfl ?_
 rintro _ w2 ⟨rfl, F1, G3⟩
 have z4 := V.Fr.size G3
 try replace Fk := Fk.ma G3
 first | replace FL := FL.mv1 G3 (by (try dsimp only [V.In]); first | omega | grind) | clear FL | skip
 first | replace Fd := Fd.mv1 G3 (by (try dsimp only [V.In]); first | omega | grind) | clear Fd | skip
 first | replace FX := FX.mv1 G3 (by (try dsimp only [V.In]); first | omega | grind) | clear FX | skip
 try replace FR := FR.ma G3
 replace HG := HG.n1 G3
 clear G3
 refine V.run T_ok 5 rfl ?_
 refine V.nil ?_
 refine V.tN ?_
 refine V.seq ?_
 refine V.seq ?_
 have hxr := rdN_range x 1099511627776 (by decide)
 refine V.region ?_
 refine V.run T_ok 3 rfl ?_
 refine V.split (j := 2) (t := 14) rfl rfl (fun g2_2 => ?_) (fun g2_2 => ?_)
 ·
  try replace g2_2 := V.dec g2_2
  try simp only [V.mk0, V.mk1, V.mk2, V.mk3] at g2_2
  refine V.run T_ok 13 rfl ?_
  refine V.nil ?_
  refine V.tN ?_
  refine V.condY rfl rfl ?_
  refine V.seq ?_
  refine V.region ?_
  refine V.run T_ok 1 rfl ?_
  refine V.nil ?_
  refine V.tN ?_
  refine V.ret ?_
  refine V.tR ?_
  have hno : cutV jv x = none := by unfold cutV; rw [if_neg (by grind)]
  rw [hno]
  have FX9 := FX.mono (E' := (fun i => E i ∨ V.In w.heap.size w2.heap.size i)) (by intro i h; (try dsimp only [V.In] at h ⊢); first | omega | grind) (by intro i h; (try dsimp only [V.In] at h ⊢); first | omega | grind)
  refine V.done rfl ?_
  exact ⟨(by first | rfl | simp only [List.length_set]), FX9, HG⟩
 ·
  try replace g2_2 := V.dec g2_2
  try simp only [V.mk0, V.mk1, V.mk2, V.mk3] at g2_2
  refine V.run T_ok 1 rfl ?_
  refine V.yes rfl rfl rfl ?_
  refine V.call (rd_end F1) rfl rfl rfl ?_
  rintro _ w2_ ⟨rfl, rfl⟩
  refine V.run T_ok 3 rfl ?_
  refine V.split (j := 7) (t := 19) rfl rfl (fun g2_7 => ?_) (fun g2_7 => ?_)
  ·
   try replace g2_7 := V.dec g2_7
   try simp only [V.mk0, V.mk1, V.mk2, V.mk3] at g2_7
   refine V.run T_ok 8 rfl ?_
   refine V.nil ?_
   refine V.tN ?_
   refine V.condY rfl rfl ?_
   refine V.seq ?_
   refine V.region ?_
   refine V.run T_ok 1 rfl ?_
   refine V.nil ?_
   refine V.tN ?_
   refine V.ret ?_
   refine V.tR ?_
   have hno : cutV jv x = none := by unfold cutV; rw [if_neg (by grind)]
   rw [hno]
   have FX9 := FX.mono (E' := (fun i => E i ∨ V.In w.heap.size w2.heap.size i)) (by intro i h; (try dsimp only [V.In] at h ⊢); first | omega | grind) (by intro i h; (try dsimp only [V.In] at h ⊢); first | omega | grind)
   refine V.done rfl ?_
   exact ⟨(by first | rfl | simp only [List.length_set]), FX9, HG⟩
  ·
   try replace g2_7 := V.dec g2_7
   try simp only [V.mk0, V.mk1, V.mk2, V.mk3] at g2_7
   refine V.run T_ok 4 rfl ?_
   refine V.yes rfl rfl rfl ?_
   refine V.loadO T_ok Fk rfl rfl rfl rfl rfl ?_
   refine V.run T_ok 3 rfl ?_
   refine V.nil ?_
   refine V.tN ?_
   refine V.condT rfl (fun h2 => ?_) (fun h2 => ?_)
   ·
    try replace h2 := V.dec h2
    try simp only [V.mk0, V.mk1, V.mk2, V.mk3] at h2
    refine V.seq ?_
    refine V.region ?_
    refine V.run T_ok 1 rfl ?_
    refine V.nil ?_
    refine V.tN ?_
    refine V.ret ?_
    refine V.tR ?_
    have hno : cutV jv x = none := by unfold cutV; rw [if_neg (by grind)]
    rw [hno]
    have FX9 := FX.mono (E' := (fun i => E i ∨ V.In w.heap.size w2.heap.size i)) (by intro i h; (try dsimp only [V.In] at h ⊢); first | omega | grind) (by intro i h; (try dsimp only [V.In] at h ⊢); first | omega | grind)
    refine V.done rfl ?_
    exact ⟨(by first | rfl | simp only [List.length_set]), FX9, HG⟩
   ·
    try replace h2 := V.dec h2
    try simp only [V.mk0, V.mk1, V.mk2, V.mk3] at h2
    refine V.skip ?_
    refine V.tN ?_
    refine V.seq ?_
    refine V.region ?_
    refine V.run T_ok 4 rfl ?_
    refine V.loadO T_ok Fk rfl rfl rfl rfl rfl ?_
    refine V.run T_ok 2 rfl ?_
    have hc7 := FL.slB.cap
    have F6 := FL.take (m := ((rdN x (1099511627776 : Int)).1.1).toNat) (by first | omega | (simp only [List.length_take, List.length_drop, List.length_append, List.length_cons, List.length_nil, List.length_replicate, List.length_set, V.length_data, V.S_size]; omega))
    clear FL
    refine V.step rfl rfl (V.cut3_runC (C := V.Cod.byte.sl) T_ok hc7 rfl rfl sz22 rfl rfl rfl (by first | omega | (simp only [List.length_take, List.length_drop, List.length_append, List.length_cons, List.length_nil, List.length_replicate, List.length_set, V.length_data, V.S_size]; omega)) (by first | omega | (simp only [List.length_take, List.length_drop, List.length_append, List.length_cons, List.length_nil, List.length_replicate, List.length_set, V.length_data, V.S_size]; omega)) (by omega) (by omega) _) ?_
    refine V.run T_ok 2 rfl ?_
    refine V.storeO Fk rfl rfl rfl rfl sz54 rfl rfl rfl rfl ?_
    rintro w8 G9 z11 Fs10
    clear Fk
    have z12 := V.Fr.size G9
    first | replace Fd := Fd.mv1 G9 (by (try dsimp only [V.In]); first | omega | grind) | clear Fd | skip
    first | replace FX := FX.mv1 G9 (by (try dsimp only [V.In]); first | omega | grind) | clear FX | skip
    try replace F1 := F1.ma G9
    first | replace F6 := F6.mv1 G9 (by (try dsimp only [V.In]); first | omega | grind) | clear F6 | skip
    replace HG := HG.n1 G9
    clear G9
    have Fk := Fs10; clear Fs10
    simp only [V.spliceL, V.cellsL] at Fk
    refine V.nil ?_
    refine V.tN ?_
    refine V.seq ?_
    refine V.region ?_
    refine V.run T_ok 1 rfl ?_
    refine V.nil ?_
    refine V.tN ?_
    refine V.ret ?_
    have hyes : cutV jv x = some { jv with l := jv.l.take (rdN x 1099511627776).1.1.toNat } := by unfold cutV; rw [if_pos (by grind)]
    have hok9 := cutV_ok FX0.ok hyes
    rw [hyes]
    have FX9 := Jn.mk2 (E := (fun i => E i ∨ V.In w.heap.size w8.heap.size i)) (j := ⟨jv.base, jv.data, (jv.l.take ((rdN x (1099511627776 : Int)).1.1).toNat), jv.t, jv.v, jv.b⟩) Fk F6 Fd hok9 (by intro i h; first | exact h.elim | ((try dsimp only [V.In] at h ⊢); first | omega | grind)) ⟨⟨by (try dsimp only [V.In]); first | omega | grind, by (try dsimp only [V.In]); first | omega | grind⟩, by intro i h; first | exact h.elim | ((try dsimp only [V.In] at h ⊢); first | omega | grind)⟩ (by intro i h; first | exact h.elim | ((try dsimp only [V.In] at h ⊢); first | omega | grind))
    refine V.done rfl ?_
    exact ⟨(by first | rfl | simp only [List.length_set]), FX9, HG⟩

set_option maxHeartbeats 900000 in
set_option maxRecDepth 10000 in
theorem takeBase_spec {w : World} {k kd kr : Nat} {E Dr : Nat → Prop} {jv : JV} {x : List UInt8} (FX : Jn w k kd E jv) (FR : Rd w kr Dr x)  (hr : ¬ E kr) :
    Meets Try.prog 84 [.pointer (some ⟨k, 0, none⟩), .pointer (some ⟨kr, 0, none⟩)] w fun r w' => r = .bool ((basV jv x).isSome) ∧ Jn w' k kd (fun i => E i ∨ V.In w.heap.size w'.heap.size i) ((basV jv x).getD jv) ∧ V.FrE (fun i => E i ∨ i = kr) w w' := by
 have FX0 := FX
 obtain ⟨SS, BB, aL, cL, aD, cD, ⟨⟨hkS, hkB⟩, hSB⟩, hEE, Fk, FL, Fd⟩ := FX.ex
 have hlt := FX.lt
 have hok := FX.ok
 obtain ⟨hb0, hb1, hll, hdl, hel⟩ := hok
 have hkl := Fk.lt
 have hEk : E k := hEE k (.inl rfl)
 have hSE : ∀ i, SS i → E i := fun i h => hEE i (.inr (.inl h))
 have hBE : ∀ i, BB i → E i := fun i h => hEE i (.inr (.inr h))
 have hSl : ∀ i, SS i → i < w.heap.size := fun i h => hlt i (hSE i h)
 have hBl : ∀ i, BB i → i < w.heap.size := fun i h => hlt i (hBE i h)
 have hl63 := FL.slB.len63
 have hkr := FR.lt
 have hnk := FR.nk
 have hrk : kr ≠ k := fun h => hr (h ▸ hEk)
 have hrS : ¬ SS kr := fun h => hr (hSE _ h)
 have hrB : ¬ BB kr := fun h => hr (hBE _ h)
 have HG := V.FrE.refl (fun i => E i ∨ i = kr) w
 refine V.enter (n := 68) Try.func84 rfl rfl (by decide) rfl ?_
 refine V.seq ?_
 refine V.region ?_
 refine V.run T_ok 1 rfl ?_
 refine V.nil ?_
 refine V.tN ?_
 refine V.seq ?_
 refine V.region ?_
 refine V.run T_ok 1 rfl ?_
 refine V.call (rd_number (most := 1099511627776) FR) rfl rfl rfl ?_
 rintro _ w2 ⟨rfl, F1, G3⟩
 have z4 := V.Fr.size G3
 try replace Fk := Fk.ma G3
 first | replace FL := FL.mv1 G3 (by (try dsimp only [V.In]); first | omega | grind) | clear FL | skip
 first | replace Fd := Fd.mv1 G3 (by (try dsimp only [V.In]); first | omega | grind) | clear Fd | skip
 first | replace FX := FX.mv1 G3 (by (try dsimp only [V.In]); first | omega | grind) | clear FX | skip
 try replace FR := FR.ma G3
 replace HG := HG.n1 G3
 clear G3
 refine V.run T_ok 5 rfl ?_
 refine V.nil ?_
 refine V.tN ?_
 refine V.seq ?_
 refine V.region ?_
 refine V.run T_ok 1 rfl ?_
 refine V.call (rd_text (most := 65536) F1) rfl rfl rfl ?_
 rintro _ w6 ⟨rfl, F5, G7⟩
 have z8 := V.Fr.size G7
 try replace Fk := Fk.ma G7
 first | replace FL := FL.mv1 G7 (by (try dsimp only [V.In]); first | omega | grind) | clear FL | skip
 first | replace Fd := Fd.mv1 G7 (by (try dsimp only [V.In]); first | omega | grind) | clear Fd | skip
 first | replace FX := FX.mv1 G7 (by (try dsimp only [V.In]); first | omega | grind) | clear FX | skip
 try replace F1 := F1.ma G7
 replace HG := HG.n1 G7
 clear G7
 refine V.run T_ok 5 rfl ?_
 refine V.nil ?_
 refine V.tN ?_
 refine V.seq ?_
 refine V.seq ?_
 have hxr := rdN_range x 1099511627776 (by decide)
 have hxm := rdT_max (rdN x 1099511627776).2 65536 (by decide)
 refine V.region ?_
 refine V.run T_ok 3 rfl ?_
 refine V.orG T_ok 2 2 21 rfl rfl rfl rfl rfl rfl rfl rfl ?_
 refine V.run T_ok 1 rfl ?_
 refine V.split (j := 6) (t := 25) rfl rfl (fun g3_6 => ?_) (fun g3_6 => ?_)
 ·
  try replace g3_6 := V.dec g3_6
  try simp only [V.mk0, V.mk1, V.mk2, V.mk3] at g3_6
  refine V.run T_ok 4 rfl ?_
  refine V.nil ?_
  refine V.tN ?_
  refine V.condY rfl rfl ?_
  refine V.seq ?_
  refine V.region ?_
  refine V.run T_ok 1 rfl ?_
  refine V.nil ?_
  refine V.tN ?_
  refine V.ret ?_
  refine V.tR ?_
  have hno : basV jv x = none := by unfold basV; rw [if_neg (by grind)]
  rw [hno]
  have FX9 := FX.mono (E' := (fun i => E i ∨ V.In w.heap.size w6.heap.size i)) (by intro i h; (try dsimp only [V.In] at h ⊢); first | omega | grind) (by intro i h; (try dsimp only [V.In] at h ⊢); first | omega | grind)
  refine V.done rfl ?_
  exact ⟨(by first | rfl | simp only [List.length_set]), FX9, HG⟩
 ·
  try replace g3_6 := V.dec g3_6
  try simp only [V.mk0, V.mk1, V.mk2, V.mk3] at g3_6
  refine V.run T_ok 1 rfl ?_
  refine V.yes rfl rfl rfl ?_
  refine V.call (rd_end F5) rfl rfl rfl ?_
  rintro _ w6_ ⟨rfl, rfl⟩
  refine V.run T_ok 2 rfl ?_
  refine V.nil ?_
  refine V.tN ?_
  refine V.condT rfl (fun h3 => ?_) (fun h3 => ?_)
  ·
   try replace h3 := V.dec h3
   try simp only [V.mk0, V.mk1, V.mk2, V.mk3] at h3
   refine V.seq ?_
   refine V.region ?_
   refine V.run T_ok 1 rfl ?_
   refine V.nil ?_
   refine V.tN ?_
   refine V.ret ?_
   refine V.tR ?_
   have hno : basV jv x = none := by unfold basV; rw [if_neg (by grind)]
   rw [hno]
   have FX9 := FX.mono (E' := (fun i => E i ∨ V.In w.heap.size w6.heap.size i)) (by intro i h; (try dsimp only [V.In] at h ⊢); first | omega | grind) (by intro i h; (try dsimp only [V.In] at h ⊢); first | omega | grind)
   refine V.done rfl ?_
   exact ⟨(by first | rfl | simp only [List.length_set]), FX9, HG⟩
  ·
   try replace h3 := V.dec h3
   try simp only [V.mk0, V.mk1, V.mk2, V.mk3] at h3
   refine V.skip ?_
   refine V.tN ?_
   refine V.seq ?_
   refine V.seq ?_
   refine V.region ?_
   refine V.run T_ok 4 rfl ?_
   refine V.loadO T_ok Fk rfl rfl rfl rfl rfl ?_
   refine V.run T_ok 2 rfl ?_
   refine V.split (j := 6) (t := 36) rfl rfl (fun g5_6 => ?_) (fun g5_6 => ?_)
   ·
    try replace g5_6 := V.dec g5_6
    try simp only [V.mk0, V.mk1, V.mk2, V.mk3] at g5_6
    refine V.run T_ok 5 rfl ?_
    refine V.nil ?_
    refine V.tN ?_
    refine V.condY rfl rfl ?_
    refine V.region ?_
    refine V.run T_ok 3 rfl ?_
    refine V.storeO Fk rfl rfl rfl rfl sz54 rfl rfl rfl rfl ?_
    rintro w10 G11 z13 Fs12
    clear Fk
    have z14 := V.Fr.size G11
    first | replace FL := FL.mv1 G11 (by (try dsimp only [V.In]); first | omega | grind) | clear FL | skip
    first | replace Fd := Fd.mv1 G11 (by (try dsimp only [V.In]); first | omega | grind) | clear Fd | skip
    first | replace FX := FX.mv1 G11 (by (try dsimp only [V.In]); first | omega | grind) | clear FX | skip
    try replace F5 := F5.ma G11
    replace HG := HG.n1 G11
    clear G11
    have Fk := Fs12; clear Fs12
    simp only [V.spliceL, V.cellsL] at Fk
    refine V.nil ?_
    refine V.tN ?_
    refine V.seq ?_
    refine V.region ?_
    refine V.run T_ok 4 rfl ?_
    refine V.ofStr Try.underlying9 Try.underlying22 Try.underlying5 rfl rfl rfl rfl (by (unfold maxLen; rw [V.S_size]; omega)) ?_
    rintro a15 c16 w18 G19 s20 F17
    have z21 := V.Fr.size G19
    try replace FL := FL.gr G19
    try replace Fd := Fd.gr G19
    try replace FX := FX.gr G19
    try replace F5 := F5.gr G19
    try replace Fk := Fk.gr G19
    replace HG := HG.grow G19
    clear G19
    refine V.run T_ok 2 rfl ?_
    refine V.storeO Fk rfl rfl rfl rfl sz3 rfl rfl rfl rfl ?_
    rintro w22 G23 z25 Fs24
    clear Fk
    have z26 := V.Fr.size G23
    first | replace FL := FL.mv1 G23 (by (try dsimp only [V.In]); first | omega | grind) | clear FL | skip
    first | replace Fd := Fd.mv1 G23 (by (try dsimp only [V.In]); first | omega | grind) | clear Fd | skip
    first | replace FX := FX.mv1 G23 (by (try dsimp only [V.In]); first | omega | grind) | clear FX | skip
    try replace F5 := F5.ma G23
    try replace F17 := F17.ma G23
    replace HG := HG.n1 G23
    clear G23
    have Fk := Fs24; clear Fs24
    simp only [V.spliceL, V.cellsL] at Fk
    refine V.run T_ok 2 rfl ?_
    refine V.storeO Fk rfl rfl rfl rfl sz22 rfl rfl rfl rfl ?_
    rintro w27 G28 z30 Fs29
    clear Fk
    have z31 := V.Fr.size G28
    first | replace FL := FL.mv1 G28 (by (try dsimp only [V.In]); first | omega | grind) | clear FL | skip
    first | replace Fd := Fd.mv1 G28 (by (try dsimp only [V.In]); first | omega | grind) | clear Fd | skip
    first | replace FX := FX.mv1 G28 (by (try dsimp only [V.In]); first | omega | grind) | clear FX | skip
    try replace F5 := F5.ma G28
    try replace F17 := F17.ma G28
    replace HG := HG.n1 G28
    clear G28
    have Fk := Fs29; clear Fs29
    simp only [V.spliceL, V.cellsL] at Fk
    refine V.nil ?_
    refine V.tN ?_
    refine V.seq ?_
    refine V.region ?_
    refine V.run T_ok 1 rfl ?_
    refine V.nil ?_
    refine V.tN ?_
    refine V.ret ?_
    have hbl : basL jv (rdN x 1099511627776).1.1 = [] := by unfold basL; rw [if_pos (by grind)]
    have hyes : basV jv x = some { jv with base := (rdN x 1099511627776).1.1, data := (rdT (rdN x 1099511627776).2 65536).1.1, l := [] } := by unfold basV; rw [if_pos (by grind), hbl]
    have hok9 := basV_ok FX0.ok hyes
    rw [hyes]
    have FX9 := Jn.mk2 (E := (fun i => E i ∨ V.In w.heap.size w27.heap.size i)) (j := ⟨((rdN x (1099511627776 : Int)).1.1), ((S (rdT ((rdN x (1099511627776 : Int)).2) (65536 : Int)).1.1).data.toList), ([]), jv.t, jv.v, jv.b⟩) Fk (V.RowW.nil (B := V.None') (E := V.None')) F17 hok9 (by intro i h; first | exact h.elim | ((try dsimp only [V.In] at h ⊢); first | omega | grind)) ⟨⟨by (try dsimp only [V.In]); first | omega | grind, by (try dsimp only [V.In]); first | omega | grind⟩, by intro i h; first | exact h.elim | ((try dsimp only [V.In] at h ⊢); first | omega | grind)⟩ (by intro i h; first | exact h.elim | ((try dsimp only [V.In] at h ⊢); first | omega | grind))
    refine V.done rfl ?_
    exact ⟨(by first | rfl | simp only [List.length_set]), FX9, HG⟩
   ·
    try replace g5_6 := V.dec g5_6
    try simp only [V.mk0, V.mk1, V.mk2, V.mk3] at g5_6
    refine V.run T_ok 2 rfl ?_
    refine V.yes rfl rfl rfl ?_
    refine V.call (jlast_spec FX) rfl rfl rfl ?_
    rintro _ w32 ⟨rfl, G33⟩
    have z34 := V.Fr.size G33
    try replace Fk := Fk.gr G33
    try replace FL := FL.gr G33
    try replace Fd := Fd.gr G33
    try replace FX := FX.gr G33
    try replace F5 := F5.gr G33
    replace HG := HG.grow G33
    clear G33
    refine V.run T_ok 2 rfl ?_
    refine V.nil ?_
    refine V.tN ?_
    refine V.condT rfl (fun h5 => ?_) (fun h5 => ?_)
    ·
     try replace h5 := V.dec h5
     try simp only [V.mk0, V.mk1, V.mk2, V.mk3] at h5
     refine V.region ?_
     refine V.run T_ok 3 rfl ?_
     refine V.storeO Fk rfl rfl rfl rfl sz54 rfl rfl rfl rfl ?_
     rintro w35 G36 z38 Fs37
     clear Fk
     have z39 := V.Fr.size G36
     first | replace FL := FL.mv1 G36 (by (try dsimp only [V.In]); first | omega | grind) | clear FL | skip
     first | replace Fd := Fd.mv1 G36 (by (try dsimp only [V.In]); first | omega | grind) | clear Fd | skip
     first | replace FX := FX.mv1 G36 (by (try dsimp only [V.In]); first | omega | grind) | clear FX | skip
     try replace F5 := F5.ma G36
     replace HG := HG.n1 G36
     clear G36
     have Fk := Fs37; clear Fs37
     simp only [V.spliceL, V.cellsL] at Fk
     refine V.nil ?_
     refine V.tN ?_
     refine V.seq ?_
     refine V.region ?_
     refine V.run T_ok 4 rfl ?_
     refine V.ofStr Try.underlying9 Try.underlying22 Try.underlying5 rfl rfl rfl rfl (by (unfold maxLen; rw [V.S_size]; omega)) ?_
     rintro a40 c41 w43 G44 s45 F42
     have z46 := V.Fr.size G44
     try replace FL := FL.gr G44
     try replace Fd := Fd.gr G44
     try replace FX := FX.gr G44
     try replace F5 := F5.gr G44
     try replace Fk := Fk.gr G44
     replace HG := HG.grow G44
     clear G44
     refine V.run T_ok 2 rfl ?_
     refine V.storeO Fk rfl rfl rfl rfl sz3 rfl rfl rfl rfl ?_
     rintro w47 G48 z50 Fs49
     clear Fk
     have z51 := V.Fr.size G48
     first | replace FL := FL.mv1 G48 (by (try dsimp only [V.In]); first | omega | grind) | clear FL | skip
     first | replace Fd := Fd.mv1 G48 (by (try dsimp only [V.In]); first | omega | grind) | clear Fd | skip
     first | replace FX := FX.mv1 G48 (by (try dsimp only [V.In]); first | omega | grind) | clear FX | skip
     try replace F5 := F5.ma G48
     try replace F42 := F42.ma G48
     replace HG := HG.n1 G48
     clear G48
     have Fk := Fs49; clear Fs49
     simp only [V.spliceL, V.cellsL] at Fk
     refine V.run T_ok 2 rfl ?_
     refine V.storeO Fk rfl rfl rfl rfl sz22 rfl rfl rfl rfl ?_
     rintro w52 G53 z55 Fs54
     clear Fk
     have z56 := V.Fr.size G53
     first | replace FL := FL.mv1 G53 (by (try dsimp only [V.In]); first | omega | grind) | clear FL | skip
     first | replace Fd := Fd.mv1 G53 (by (try dsimp only [V.In]); first | omega | grind) | clear Fd | skip
     first | replace FX := FX.mv1 G53 (by (try dsimp only [V.In]); first | omega | grind) | clear FX | skip
     try replace F5 := F5.ma G53
     try replace F42 := F42.ma G53
     replace HG := HG.n1 G53
     clear G53
     have Fk := Fs54; clear Fs54
     simp only [V.spliceL, V.cellsL] at Fk
     refine V.nil ?_
     refine V.tN ?_
     refine V.seq ?_
     refine V.region ?_
     refine V.run T_ok 1 rfl ?_
     refine V.nil ?_
     refine V.tN ?_
     refine V.ret ?_
     have hbl : basL jv (rdN x 1099511627776).1.1 = [] := by unfold basL; rw [if_pos (by grind)]
     have hyes : basV jv x = some { jv with base := (rdN x 1099511627776).1.1, data := (rdT (rdN x 1099511627776).2 65536).1.1, l := [] } := by unfold basV; rw [if_pos (by grind), hbl]
     have hok9 := basV_ok FX0.ok hyes
     rw [hyes]
     have FX9 := Jn.mk2 (E := (fun i => E i ∨ V.In w.heap.size w52.heap.size i)) (j := ⟨((rdN x (1099511627776 : Int)).1.1), ((S (rdT ((rdN x (1099511627776 : Int)).2) (65536 : Int)).1.1).data.toList), ([]), jv.t, jv.v, jv.b⟩) Fk (V.RowW.nil (B := V.None') (E := V.None')) F42 hok9 (by intro i h; first | exact h.elim | ((try dsimp only [V.In] at h ⊢); first | omega | grind)) ⟨⟨by (try dsimp only [V.In]); first | omega | grind, by (try dsimp only [V.In]); first | omega | grind⟩, by intro i h; first | exact h.elim | ((try dsimp only [V.In] at h ⊢); first | omega | grind)⟩ (by intro i h; first | exact h.elim | ((try dsimp only [V.In] at h ⊢); first | omega | grind))
     refine V.done rfl ?_
     exact ⟨(by first | rfl | simp only [List.length_set]), FX9, HG⟩
    ·
     try replace h5 := V.dec h5
     try simp only [V.mk0, V.mk1, V.mk2, V.mk3] at h5
     refine V.drawT 14 mixed (by kernel_rfl) ?_
     rintro w57 G58 s59
     have z60 := V.Fr.size G58
     try replace Fk := Fk.gr G58
     try replace FL := FL.gr G58
     try replace Fd := Fd.gr G58
     try replace FX := FX.gr G58
     try replace F5 := F5.gr G58
     replace HG := HG.grow G58
     clear G58
     refine V.qrun T_ok 4 rfl ?_
     refine V.qloadO T_ok Fk rfl rfl rfl rfl rfl ?_
     refine V.qrun T_ok 4 rfl ?_
     refine V.qloadO T_ok Fk rfl rfl rfl rfl rfl ?_
     refine V.qsubN rfl rfl rfl rfl rfl (by first | omega | (simp only [List.length_take, List.length_drop, List.length_append, List.length_cons, List.length_nil, List.length_replicate, List.length_set, V.length_data, V.S_size]; omega)) (by first | omega | (simp only [List.length_take, List.length_drop, List.length_append, List.length_cons, List.length_nil, List.length_replicate, List.length_set, V.length_data, V.S_size]; omega)) ?_
     have hc62 := FL.slB.cap
     have F61 := FL.drop (l := (((rdN x (1099511627776 : Int)).1.1) - jv.base).toNat) (by first | omega | (simp only [List.length_take, List.length_drop, List.length_append, List.length_cons, List.length_nil, List.length_replicate, List.length_set, V.length_data, V.S_size]; omega))
     clear FL
     refine V.qstep rfl rfl (fun w_ _ => V.cutD_runC (C := V.Cod.byte.sl) T_ok hc62 rfl rfl sz22 rfl rfl (by first | omega | (simp only [List.length_take, List.length_drop, List.length_append, List.length_cons, List.length_nil, List.length_replicate, List.length_set, V.length_data, V.S_size]; omega)) (by first | omega | (simp only [List.length_take, List.length_drop, List.length_append, List.length_cons, List.length_nil, List.length_replicate, List.length_set, V.length_data, V.S_size]; omega)) w_) ?_
     refine V.qrun T_ok 2 rfl ?_
     refine V.qnil ?_
     refine V.storeO Fk rfl rfl rfl rfl sz54 rfl rfl rfl rfl ?_
     rintro w63 G64 z66 Fs65
     clear Fk
     have z67 := V.Fr.size G64
     first | replace Fd := Fd.mv1 G64 (by (try dsimp only [V.In]); first | omega | grind) | clear Fd | skip
     first | replace FX := FX.mv1 G64 (by (try dsimp only [V.In]); first | omega | grind) | clear FX | skip
     try replace F5 := F5.ma G64
     first | replace F61 := F61.mv1 G64 (by (try dsimp only [V.In]); first | omega | grind) | clear F61 | skip
     replace HG := HG.n1 G64
     clear G64
     have Fk := Fs65; clear Fs65
     simp only [V.spliceL, V.cellsL] at Fk
     refine V.nil ?_
     refine V.tN ?_
     refine V.seq ?_
     refine V.region ?_
     refine V.run T_ok 4 rfl ?_
     refine V.ofStr Try.underlying9 Try.underlying22 Try.underlying5 rfl rfl rfl rfl (by (unfold maxLen; rw [V.S_size]; omega)) ?_
     rintro a68 c69 w71 G72 s73 F70
     have z74 := V.Fr.size G72
     try replace Fd := Fd.gr G72
     try replace FX := FX.gr G72
     try replace F5 := F5.gr G72
     try replace F61 := F61.gr G72
     try replace Fk := Fk.gr G72
     replace HG := HG.grow G72
     clear G72
     refine V.run T_ok 2 rfl ?_
     refine V.storeO Fk rfl rfl rfl rfl sz3 rfl rfl rfl rfl ?_
     rintro w75 G76 z78 Fs77
     clear Fk
     have z79 := V.Fr.size G76
     first | replace Fd := Fd.mv1 G76 (by (try dsimp only [V.In]); first | omega | grind) | clear Fd | skip
     first | replace FX := FX.mv1 G76 (by (try dsimp only [V.In]); first | omega | grind) | clear FX | skip
     try replace F5 := F5.ma G76
     first | replace F61 := F61.mv1 G76 (by (try dsimp only [V.In]); first | omega | grind) | clear F61 | skip
     try replace F70 := F70.ma G76
     replace HG := HG.n1 G76
     clear G76
     have Fk := Fs77; clear Fs77
     simp only [V.spliceL, V.cellsL] at Fk
     refine V.run T_ok 2 rfl ?_
     refine V.storeO Fk rfl rfl rfl rfl sz22 rfl rfl rfl rfl ?_
     rintro w80 G81 z83 Fs82
     clear Fk
     have z84 := V.Fr.size G81
     first | replace Fd := Fd.mv1 G81 (by (try dsimp only [V.In]); first | omega | grind) | clear Fd | skip
     first | replace FX := FX.mv1 G81 (by (try dsimp only [V.In]); first | omega | grind) | clear FX | skip
     try replace F5 := F5.ma G81
     first | replace F61 := F61.mv1 G81 (by (try dsimp only [V.In]); first | omega | grind) | clear F61 | skip
     try replace F70 := F70.ma G81
     replace HG := HG.n1 G81
     clear G81
     have Fk := Fs82; clear Fs82
     simp only [V.spliceL, V.cellsL] at Fk
     refine V.nil ?_
     refine V.tN ?_
     refine V.seq ?_
     refine V.region ?_
     refine V.run T_ok 1 rfl ?_
     refine V.nil ?_
     refine V.tN ?_
     refine V.ret ?_
     have hbl : basL jv (rdN x 1099511627776).1.1 = jv.l.drop (((rdN x (1099511627776 : Int)).1.1) - jv.base).toNat := by unfold basL; rw [if_neg (by grind)]
     have hyes : basV jv x = some { jv with base := (rdN x 1099511627776).1.1, data := (rdT (rdN x 1099511627776).2 65536).1.1, l := jv.l.drop (((rdN x (1099511627776 : Int)).1.1) - jv.base).toNat } := by unfold basV; rw [if_pos (by grind), hbl]
     have hok9 := basV_ok FX0.ok hyes
     rw [hyes]
     have FX9 := Jn.mk2 (E := (fun i => E i ∨ V.In w.heap.size w80.heap.size i)) (j := ⟨((rdN x (1099511627776 : Int)).1.1), ((S (rdT ((rdN x (1099511627776 : Int)).2) (65536 : Int)).1.1).data.toList), (jv.l.drop (((rdN x (1099511627776 : Int)).1.1) - jv.base).toNat), jv.t, jv.v, jv.b⟩) Fk F61 F70 hok9 (by intro i h; first | exact h.elim | ((try dsimp only [V.In] at h ⊢); first | omega | grind)) ⟨⟨by (try dsimp only [V.In]); first | omega | grind, by (try dsimp only [V.In]); first | omega | grind⟩, by intro i h; first | exact h.elim | ((try dsimp only [V.In] at h ⊢); first | omega | grind)⟩ (by intro i h; first | exact h.elim | ((try dsimp only [V.In] at h ⊢); first | omega | grind))
     refine V.done rfl ?_
     exact ⟨(by first | rfl | simp only [List.length_set]), FX9, HG⟩

set_option maxHeartbeats 900000 in
set_option maxRecDepth 10000 in
theorem takes_spec {w : World}    :
    Meets Try.prog 69 [] w fun r w' => ∃ (rk1 : Nat), r = .map (some rk1) ∧ V.MapB w' rk1 (Value.int .i64) (V.mput (V.mput (V.mput [] 1 (.func (.func 82) #[] #[])) 2 (.func (.func 83) #[] #[])) 3 (.func (.func 84) #[] #[])) ∧ Gr w w' := by
 have HG := V.Fr.refl [] w
 refine V.enter (n := 3) Try.func69 rfl rfl (by decide) rfl ?_
 refine V.seq ?_
 refine V.region ?_
 refine V.run T_ok 1 rfl ?_
 refine V.nil ?_
 refine V.tN ?_
 refine V.seq ?_
 refine V.region ?_
 refine V.mkMap (enc := (Value.int .i64)) rfl rfl rfl ?_
 rintro k1 w3 s5 s6 G4 F2
 have z7 := V.Fr.size G4
 replace HG := HG.grow G4
 clear G4
 refine V.mapUpd (V.key_int Try.underlying3) (.inr rfl) Try.underlying106 F2 rfl rfl rfl rfl rfl ?_
 rintro w8 G9 z10 Fnew
 clear F2
 have z11 := V.Fr.size G9
 replace HG := HG.n1 G9
 clear G9
 have F2 := Fnew; clear Fnew
 refine V.mapUpd (V.key_int Try.underlying3) (.inr rfl) Try.underlying106 F2 rfl rfl rfl rfl rfl ?_
 rintro w12 G13 z14 Fnew
 clear F2
 have z15 := V.Fr.size G13
 replace HG := HG.n1 G13
 clear G13
 have F2 := Fnew; clear Fnew
 refine V.mapUpd (V.key_int Try.underlying3) (.inr rfl) Try.underlying106 F2 rfl rfl rfl rfl rfl ?_
 rintro w16 G17 z18 Fnew
 clear F2
 have z19 := V.Fr.size G17
 replace HG := HG.n1 G17
 clear G17
 have F2 := Fnew; clear Fnew
 refine V.run T_ok 2 rfl ?_
 refine V.nil ?_
 refine V.tN ?_
 refine V.ret ?_
 refine V.done rfl ?_
 exact ⟨_, (by first | rfl | simp only [List.length_set]), F2, HG⟩

set_option maxHeartbeats 900000 in
set_option maxRecDepth 10000 in
theorem take_spec {w : World} {k kd : Nat} {E : Nat → Prop} {jv : JV} (FX : Jn w k kd E jv) {D_b : Nat → Prop} {c_b : Nat} {a_b : Option Addr} {b : List UInt8} (F_b : Sl V.Cod.byte w D_b a_b c_b b) (hD_b : ∀ k, D_b k → k < w.heap.size) (hs : jv.l.length + 1 ≤ 1000000) (hbl : b.length ≤ 140737488355328) :
    Meets Try.prog 42 [.pointer (some ⟨k, 0, none⟩), .slice a_b b.length c_b] w fun r w' => r = .bool ((takeV jv b).isSome) ∧ Jn w' k kd (fun i => E i ∨ V.In w.heap.size w'.heap.size i) ((takeV jv b).getD jv) ∧ V.FrE E w w' := by
 have hlt := FX.lt
 have hEk := FX.ek
 obtain ⟨hb0, hb1, hll, hdl, hel⟩ := FX.ok
 have HG := V.FrE.refl E w
 refine V.enter (n := 31) Try.func42 rfl rfl (by decide) rfl ?_
 refine V.seq ?_
 refine V.region ?_
 refine V.run T_ok 1 rfl ?_
 refine V.nil ?_
 refine V.tN ?_
 refine V.seq ?_
 refine V.region ?_
 refine V.run T_ok 1 rfl ?_
 refine V.call (p_open F_b (fun k hk => by have := hD_b k hk; omega) (by first | omega | (simp only [List.length_take, List.length_drop, List.length_append, List.length_cons, List.length_nil, List.length_replicate, List.length_set, V.length_data, V.S_size]; omega))) rfl rfl rfl ?_
 rintro _ w4 ⟨k1, rfl, ⟨h2l, h2u⟩, F3, G5⟩
 have z6 := V.Fr.size G5
 try replace FX := FX.gr G5
 try replace F_b := F_b.gr G5
 replace HG := HG.grow G5
 clear G5
 refine V.run T_ok 1 rfl ?_
 refine V.nil ?_
 refine V.tN ?_
 refine V.seq ?_
 refine V.region ?_
 refine V.run T_ok 1 rfl ?_
 refine V.call (rd_number (most := 3) F3) rfl rfl rfl ?_
 rintro _ w8 ⟨rfl, F7, G9⟩
 have z10 := V.Fr.size G9
 first | replace FX := FX.mv1 G9 (by (try dsimp only [V.In]); first | omega | grind) | clear FX | skip
 try replace F_b := F_b.mb G9 hD_b
 try replace F3 := F3.ma G9
 replace HG := HG.n1 G9
 clear G9
 refine V.run T_ok 5 rfl ?_
 refine V.nil ?_
 refine V.tN ?_
 refine V.seq ?_
 have hkr := rdN_range b 3 (by decide)
 generalize hkn : (rdN b 3).1.1 = kn at hkr
 obtain ⟨⟨hk0, hk3⟩, -⟩ := hkr
 rcases (show kn = 0 ∨ kn = 1 ∨ kn = 2 ∨ kn = 3 by omega) with rfl | rfl | rfl | rfl
 ·
  refine V.region ?_
  refine V.call (takes_spec) rfl rfl rfl ?_
  rintro _ w13 ⟨k11, rfl, F12, G14⟩
  have z15 := V.Fr.size G14
  try replace FX := FX.gr G14
  try replace F_b := F_b.gr G14
  try replace F7 := F7.gr G14
  replace HG := HG.grow G14
  clear G14
  refine V.run T_ok 1 rfl ?_
  refine V.step rfl rfl (V.look_run (V.key_int Try.underlying3) rfl Try.underlying106 zero105 F12 rfl rfl) ?_
  refine V.run T_ok 1 rfl ?_
  refine V.nil ?_
  refine V.tN ?_
  refine V.seq ?_
  refine V.region ?_
  refine V.run T_ok 3 rfl ?_
  refine V.split (j := 2) (t := 21) rfl rfl (fun g4_2 => ?_) (fun g4_2 => ?_)
  ·
   try replace g4_2 := V.dec g4_2
   try simp only [V.mk0, V.mk1, V.mk2, V.mk3] at g4_2
   refine V.run T_ok 1 rfl ?_
   refine V.yes rfl rfl rfl ?_
   refine V.step rfl rfl (V.neFn_run Try.underlying105 rfl rfl rfl) ?_
   refine V.run T_ok 8 rfl ?_
   refine V.nil ?_
   refine V.tN ?_
   refine V.ret ?_
   rw [show takeV jv b = none from takeV_0 hkn]
   have FX9 := FX.mono (E' := (fun i => E i ∨ V.In w.heap.size w13.heap.size i)) (by intro i h; (try dsimp only [V.In] at h ⊢); first | omega | grind) (by intro i h; (try dsimp only [V.In] at h ⊢); first | omega | grind)
   refine V.done rfl ?_
   exact ⟨(by first | rfl | simp only [List.length_set]), FX9, HG⟩
  ·
   try replace g4_2 := V.dec g4_2
   try simp only [V.mk0, V.mk1, V.mk2, V.mk3] at g4_2
   refine V.run T_ok 10 rfl ?_
   refine V.nil ?_
   refine V.tN ?_
   refine V.ret ?_
   rw [show takeV jv b = none from takeV_no (by first | assumption | omega)]
   have FX9 := FX.mono (E' := (fun i => E i ∨ V.In w.heap.size w13.heap.size i)) (by intro i h; (try dsimp only [V.In] at h ⊢); first | omega | grind) (by intro i h; (try dsimp only [V.In] at h ⊢); first | omega | grind)
   refine V.done rfl ?_
   exact ⟨(by first | rfl | simp only [List.length_set]), FX9, HG⟩
 ·
  refine V.region ?_
  refine V.call (takes_spec) rfl rfl rfl ?_
  rintro _ w18 ⟨k16, rfl, F17, G19⟩
  have z20 := V.Fr.size G19
  try replace FX := FX.gr G19
  try replace F_b := F_b.gr G19
  try replace F7 := F7.gr G19
  replace HG := HG.grow G19
  clear G19
  refine V.run T_ok 1 rfl ?_
  refine V.step rfl rfl (V.look_run (V.key_int Try.underlying3) rfl Try.underlying106 zero105 F17 rfl rfl) ?_
  refine V.run T_ok 1 rfl ?_
  refine V.nil ?_
  refine V.tN ?_
  refine V.seq ?_
  refine V.region ?_
  refine V.run T_ok 3 rfl ?_
  refine V.split (j := 2) (t := 21) rfl rfl (fun g4_2 => ?_) (fun g4_2 => ?_)
  ·
   try replace g4_2 := V.dec g4_2
   try simp only [V.mk0, V.mk1, V.mk2, V.mk3] at g4_2
   refine V.run T_ok 1 rfl ?_
   refine V.yes rfl rfl rfl ?_
   refine V.step rfl rfl (V.neF_run Try.underlying105 rfl rfl rfl) ?_
   refine V.run T_ok 5 rfl ?_
   refine V.yes rfl rfl rfl ?_
   refine V.call (takeRecord_spec FX F7 (by (try dsimp only [V.In]); first | assumption | omega | grind) (by first | assumption | omega)) rfl rfl rfl ?_
   rintro _ w22 ⟨rfl, F21, G23⟩
   have z24 := V.FrE.size G23
   first | replace FX := FX.mvE G23 (by intro j h hd; (try dsimp only [V.In] at h hd ⊢); first | omega | grind) | clear FX | skip
   first | replace F_b := F_b.mvE G23 (by intro j h hd; (try dsimp only [V.In] at h hd ⊢); first | omega | grind) | clear F_b | skip
   first | replace F7 := F7.mvE G23 (by intro j h hd; (try dsimp only [V.In] at h hd ⊢); first | omega | grind) | clear F7 | skip
   first | replace F17 := F17.mvE G23 (by intro j h hd; (try dsimp only [V.In] at h hd ⊢); first | omega | grind) | clear F17 | skip
   replace HG := HG.stepE G23 (by intro i h; (try dsimp only [V.In] at h ⊢); first | omega | grind)
   clear G23
   refine V.run T_ok 2 rfl ?_
   refine V.nil ?_
   refine V.tN ?_
   refine V.ret ?_
   rw [show takeV jv b = recV jv (rdN b 3).2 from takeV_1 (by first | assumption | omega) hkn]
   have FX9 := F21.mono (E' := (fun i => E i ∨ V.In w.heap.size w22.heap.size i)) (by intro i h; (try dsimp only [V.In] at h ⊢); first | omega | grind) (by intro i h; (try dsimp only [V.In] at h ⊢); first | omega | grind)
   refine V.done rfl ?_
   exact ⟨(by first | rfl | simp only [List.length_set]), FX9, HG⟩
  ·
   try replace g4_2 := V.dec g4_2
   try simp only [V.mk0, V.mk1, V.mk2, V.mk3] at g4_2
   refine V.run T_ok 10 rfl ?_
   refine V.nil ?_
   refine V.tN ?_
   refine V.ret ?_
   rw [show takeV jv b = none from takeV_no (by first | assumption | omega)]
   have FX9 := FX.mono (E' := (fun i => E i ∨ V.In w.heap.size w18.heap.size i)) (by intro i h; (try dsimp only [V.In] at h ⊢); first | omega | grind) (by intro i h; (try dsimp only [V.In] at h ⊢); first | omega | grind)
   refine V.done rfl ?_
   exact ⟨(by first | rfl | simp only [List.length_set]), FX9, HG⟩
 ·
  refine V.region ?_
  refine V.call (takes_spec) rfl rfl rfl ?_
  rintro _ w27 ⟨k25, rfl, F26, G28⟩
  have z29 := V.Fr.size G28
  try replace FX := FX.gr G28
  try replace F_b := F_b.gr G28
  try replace F7 := F7.gr G28
  replace HG := HG.grow G28
  clear G28
  refine V.run T_ok 1 rfl ?_
  refine V.step rfl rfl (V.look_run (V.key_int Try.underlying3) rfl Try.underlying106 zero105 F26 rfl rfl) ?_
  refine V.run T_ok 1 rfl ?_
  refine V.nil ?_
  refine V.tN ?_
  refine V.seq ?_
  refine V.region ?_
  refine V.run T_ok 3 rfl ?_
  refine V.split (j := 2) (t := 21) rfl rfl (fun g4_2 => ?_) (fun g4_2 => ?_)
  ·
   try replace g4_2 := V.dec g4_2
   try simp only [V.mk0, V.mk1, V.mk2, V.mk3] at g4_2
   refine V.run T_ok 1 rfl ?_
   refine V.yes rfl rfl rfl ?_
   refine V.step rfl rfl (V.neF_run Try.underlying105 rfl rfl rfl) ?_
   refine V.run T_ok 5 rfl ?_
   refine V.yes rfl rfl rfl ?_
   refine V.call (takeCut_spec FX F7 (by (try dsimp only [V.In]); first | assumption | omega | grind)) rfl rfl rfl ?_
   rintro _ w31 ⟨rfl, F30, G32⟩
   have z33 := V.FrE.size G32
   first | replace FX := FX.mvE G32 (by intro j h hd; (try dsimp only [V.In] at h hd ⊢); first | omega | grind) | clear FX | skip
   first | replace F_b := F_b.mvE G32 (by intro j h hd; (try dsimp only [V.In] at h hd ⊢); first | omega | grind) | clear F_b | skip
   first | replace F7 := F7.mvE G32 (by intro j h hd; (try dsimp only [V.In] at h hd ⊢); first | omega | grind) | clear F7 | skip
   first | replace F26 := F26.mvE G32 (by intro j h hd; (try dsimp only [V.In] at h hd ⊢); first | omega | grind) | clear F26 | skip
   replace HG := HG.stepE G32 (by intro i h; (try dsimp only [V.In] at h ⊢); first | omega | grind)
   clear G32
   refine V.run T_ok 2 rfl ?_
   refine V.nil ?_
   refine V.tN ?_
   refine V.ret ?_
   rw [show takeV jv b = cutV jv (rdN b 3).2 from takeV_2 (by first | assumption | omega) hkn]
   have FX9 := F30.mono (E' := (fun i => E i ∨ V.In w.heap.size w31.heap.size i)) (by intro i h; (try dsimp only [V.In] at h ⊢); first | omega | grind) (by intro i h; (try dsimp only [V.In] at h ⊢); first | omega | grind)
   refine V.done rfl ?_
   exact ⟨(by first | rfl | simp only [List.length_set]), FX9, HG⟩
  ·
   try replace g4_2 := V.dec g4_2
   try simp only [V.mk0, V.mk1, V.mk2, V.mk3] at g4_2
   refine V.run T_ok 10 rfl ?_
   refine V.nil ?_
   refine V.tN ?_
   refine V.ret ?_
   rw [show takeV jv b = none from takeV_no (by first | assumption | omega)]
   have FX9 := FX.mono (E' := (fun i => E i ∨ V.In w.heap.size w27.heap.size i)) (by intro i h; (try dsimp only [V.In] at h ⊢); first | omega | grind) (by intro i h; (try dsimp only [V.In] at h ⊢); first | omega | grind)
   refine V.done rfl ?_
   exact ⟨(by first | rfl | simp only [List.length_set]), FX9, HG⟩
 ·
  refine V.region ?_
  refine V.call (takes_spec) rfl rfl rfl ?_
  rintro _ w36 ⟨k34, rfl, F35, G37⟩
  have z38 := V.Fr.size G37
  try replace FX := FX.gr G37
  try replace F_b := F_b.gr G37
  try replace F7 := F7.gr G37
  replace HG := HG.grow G37
  clear G37
  refine V.run T_ok 1 rfl ?_
  refine V.step rfl rfl (V.look_run (V.key_int Try.underlying3) rfl Try.underlying106 zero105 F35 rfl rfl) ?_
  refine V.run T_ok 1 rfl ?_
  refine V.nil ?_
  refine V.tN ?_
  refine V.seq ?_
  refine V.region ?_
  refine V.run T_ok 3 rfl ?_
  refine V.split (j := 2) (t := 21) rfl rfl (fun g4_2 => ?_) (fun g4_2 => ?_)
  ·
   try replace g4_2 := V.dec g4_2
   try simp only [V.mk0, V.mk1, V.mk2, V.mk3] at g4_2
   refine V.run T_ok 1 rfl ?_
   refine V.yes rfl rfl rfl ?_
   refine V.step rfl rfl (V.neF_run Try.underlying105 rfl rfl rfl) ?_
   refine V.run T_ok 5 rfl ?_
   refine V.yes rfl rfl rfl ?_
   refine V.call (takeBase_spec FX F7 (by (try dsimp only [V.In]); first | assumption | omega | grind)) rfl rfl rfl ?_
   rintro _ w40 ⟨rfl, F39, G41⟩
   have z42 := V.FrE.size G41
   first | replace FX := FX.mvE G41 (by intro j h hd; (try dsimp only [V.In] at h hd ⊢); first | omega | grind) | clear FX | skip
   first | replace F_b := F_b.mvE G41 (by intro j h hd; (try dsimp only [V.In] at h hd ⊢); first | omega | grind) | clear F_b | skip
   first | replace F7 := F7.mvE G41 (by intro j h hd; (try dsimp only [V.In] at h hd ⊢); first | omega | grind) | clear F7 | skip
   first | replace F35 := F35.mvE G41 (by intro j h hd; (try dsimp only [V.In] at h hd ⊢); first | omega | grind) | clear F35 | skip
   replace HG := HG.stepE G41 (by intro i h; (try dsimp only [V.In] at h ⊢); first | omega | grind)
   clear G41
   refine V.run T_ok 2 rfl ?_
   refine V.nil ?_
   refine V.tN ?_
   refine V.ret ?_
   rw [show takeV jv b = basV jv (rdN b 3).2 from takeV_3 (by first | assumption | omega) hkn]
   have FX9 := F39.mono (E' := (fun i => E i ∨ V.In w.heap.size w40.heap.size i)) (by intro i h; (try dsimp only [V.In] at h ⊢); first | omega | grind) (by intro i h; (try dsimp only [V.In] at h ⊢); first | omega | grind)
   refine V.done rfl ?_
   exact ⟨(by first | rfl | simp only [List.length_set]), FX9, HG⟩
  ·
   try replace g4_2 := V.dec g4_2
   try simp only [V.mk0, V.mk1, V.mk2, V.mk3] at g4_2
   refine V.run T_ok 10 rfl ?_
   refine V.nil ?_
   refine V.tN ?_
   refine V.ret ?_
   rw [show takeV jv b = none from takeV_no (by first | assumption | omega)]
   have FX9 := FX.mono (E' := (fun i => E i ∨ V.In w.heap.size w36.heap.size i)) (by intro i h; (try dsimp only [V.In] at h ⊢); first | omega | grind) (by intro i h; (try dsimp only [V.In] at h ⊢); first | omega | grind)
   refine V.done rfl ?_
   exact ⟨(by first | rfl | simp only [List.length_set]), FX9, HG⟩

end Go.Proofs.Ytnbijpijbhkcpaa
