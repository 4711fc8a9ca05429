/- Proved here: walks: what functions of this seat's program return and what they leave of memory, each as a contract. Conditions: stated at each theorem. -/
import Derived.Test.YtphohfpbdkgnaaaM0
namespace Go.Proofs.Ytphohfpbdkgnaaa
set_option linter.unusedVariables false
set_option linter.unusedSimpArgs false
open Go
open V (Bytes Meets Env Sl Own Gr Fr Cells S)
abbrev V.Cod.ent : V.Cod (Int × List UInt8) := V.Cod.pair (V.Cod.int .i64) V.Cod.byte.sl

structure LogV where
  base : Int
  term : Int
  l : List (Int × List UInt8)
def hasV (d : LogV) (i : Int) : Bool := decide (d.base < i) && decide (i ≤ d.base + d.l.length)
def trmV (d : LogV) (i : Int) : Int := if d.base < i ∧ i ≤ d.base + d.l.length then (d.l.getD ((i - d.base) - 1).toNat (0, [])).1 else if i = d.base then d.term else 0
def isV (d : LogV) (i : Int) : Bool := decide (d.base ≤ i) && decide (i ≤ d.base + d.l.length)
def lastI (d : LogV) : Int := d.base + d.l.length
def lastT (d : LogV) : Int := if d.l.length = 0 then d.term else (d.l.getD (d.l.length - 1) (0, [])).1
def behV (d : LogV) (i t : Int) : Bool := decide (lastT d < t) || (decide (lastT d = t) && decide (lastI d ≤ i))
def appOk (d : LogV) (t : Int) (x : List UInt8) : Prop := lastT d ≤ t ∧ t ≤ 1099511627776 ∧ (x.length : Int) ≤ 65496 ∧ lastI d < 1099511627776
instance (d : LogV) (t : Int) (x : List UInt8) : Decidable (appOk d t x) := by unfold appOk; infer_instance
def appV (d : LogV) (t : Int) (x : List UInt8) : LogV := if appOk d t x then ⟨d.base, d.term, d.l ++ [(t, x)]⟩ else d
/-- does the k-th one of e agree with what is there behind prev? -/
def mat (d : LogV) (prev : Int) (e : List (Int × List UInt8)) (k : Nat) : Bool := isV d (prev + 1 + k) && decide (trmV d (prev + 1 + k) = (e.getD k (0, [])).1)
def firstNo (d : LogV) (prev : Int) (e : List (Int × List UInt8)) : Nat := (List.range e.length).findIdx fun k => !mat d prev e k
def layI (d : LogV) (prev : Int) (e : List (Int × List UInt8)) : Int := if firstNo d prev e < e.length then prev + 1 + (firstNo d prev e : Nat) else 0
def layV (d : LogV) (prev : Int) (e : List (Int × List UInt8)) : LogV := if firstNo d prev e < e.length then ⟨d.base, d.term, d.l.take (prev + (firstNo d prev e : Nat) - d.base).toNat ++ e.drop (firstNo d prev e)⟩ else d
def aheadN (d : LogV) (prev : Int) : Int := d.base - max prev (-1099511627776)
def splOk (d : LogV) (prev t : Int) : Bool := decide (prev < d.base) || (isV d prev && decide (trmV d prev = t))
def splI (d : LogV) (prev t : Int) (e : List (Int × List UInt8)) : Int :=
  if prev < d.base then (if (e.length : Int) ≤ aheadN d prev then 0 else layI d d.base (e.drop (aheadN d prev).toNat))
  else if splOk d prev t = true then layI d prev e else 0
def splV (d : LogV) (prev t : Int) (e : List (Int × List UInt8)) : LogV :=
  if prev < d.base then (if (e.length : Int) ≤ aheadN d prev then d else layV d d.base (e.drop (aheadN d prev).toNat))
  else if splOk d prev t = true then layV d prev e else d
def cmpV (d : LogV) (i : Int) : LogV := if isV d i = true then ⟨i, trmV d i, d.l.drop (i - d.base).toNat⟩ else d
def fromV (d : LogV) (i most : Int) : List (Int × List UInt8) := if hasV d i = true ∧ 0 < most then (d.l.drop (i - d.base - 1).toNat).take most.toNat else []
def entV (d : LogV) (i : Int) : Int × List UInt8 := if hasV d i = true then d.l.getD (i - d.base - 1).toNat (0, []) else (0, [])
theorem getD_at {α : Type} {l : List α} {n : Nat} {x z : α} (hn : n < l.length) (hx : l[n] = x) : l.getD n z = x := by rw [List.getD_eq_getElem?_getD, List.getElem?_eq_getElem hn, hx]; rfl
theorem has_yes {d : LogV} {i : Int} (h : d.base < i ∧ i ≤ d.base + d.l.length) : hasV d i = true := by unfold hasV; simp; omega
theorem hasI {d : LogV} {i : Int} : hasV d i = true ↔ d.base < i ∧ i ≤ d.base + d.l.length := by unfold hasV; simp
theorem isI {d : LogV} {i : Int} : isV d i = true ↔ d.base ≤ i ∧ i ≤ d.base + d.l.length := by unfold isV; simp
theorem trm_at {d : LogV} {i : Int} {n : Nat} {x : Int × List UInt8} (h : d.base < i ∧ i ≤ d.base + d.l.length) (hn : n = (i - d.base - 1).toNat) (hlt : n < d.l.length) (hx : d.l[n] = x) : trmV d i = x.1 := by
  subst hn; unfold trmV; rw [if_pos h, getD_at hlt hx]
theorem trm_base {d : LogV} : trmV d d.base = d.term := by unfold trmV; rw [if_neg (by omega), if_pos rfl]
theorem trm_no {d : LogV} {i : Int} (h : ¬ (d.base ≤ i ∧ i ≤ d.base + d.l.length)) : trmV d i = 0 := by unfold trmV; rw [if_neg (by omega), if_neg (by omega)]
theorem lastT_at {d : LogV} {n : Nat} {x : Int × List UInt8} (hn : n = d.l.length - 1) (hlt : n < d.l.length) (hx : d.l[n] = x) : lastT d = x.1 := by
  subst hn; unfold lastT; rw [if_neg (by omega), getD_at hlt hx]
theorem lastT_nil {d : LogV} (h : d.l.length = 0) : lastT d = d.term := by unfold lastT; rw [if_pos h]
theorem ent_at {d : LogV} {i : Int} {n : Nat} {x : Int × List UInt8} (h : d.base < i ∧ i ≤ d.base + d.l.length) (hn : n = (i - d.base - 1).toNat) (hlt : n < d.l.length) (hx : d.l[n] = x) : entV d i = x := by
  subst hn; unfold entV; rw [if_pos (has_yes h), getD_at hlt hx]
theorem ent_no {d : LogV} {i : Int} (h : hasV d i = false) : entV d i = (0, []) := by unfold entV; rw [h]; rfl
theorem firstNo_at {d : LogV} {prev : Int} {e : List (Int × List UInt8)} {k : Nat} (hk : k < e.length) (h : ∀ j, j < k → mat d prev e j = true) (hn : mat d prev e k = false) : firstNo d prev e = k := by
  unfold firstNo
  refine (List.findIdx_eq (by simpa using hk)).2 ⟨by simp [hn], fun j hj => by simp [h j hj]⟩
theorem firstNo_no {d : LogV} {prev : Int} {e : List (Int × List UInt8)} (h : ∀ j, j < e.length → mat d prev e j = true) : firstNo d prev e = e.length := by
  unfold firstNo
  have := (List.findIdx_eq_length (xs := List.range e.length) (p := fun k => !mat d prev e k)).2 (by intro x hx; simp at hx; simp [h x hx])
  simpa using this
theorem lay_at {d : LogV} {prev : Int} {e : List (Int × List UInt8)} {k : Nat} (hk : k < e.length) (h : ∀ j, j < k → mat d prev e j = true) (hn : mat d prev e k = false) : layI d prev e = prev + 1 + k ∧ layV d prev e = ⟨d.base, d.term, d.l.take (prev + k - d.base).toNat ++ e.drop k⟩ := by
  unfold layI layV; rw [firstNo_at hk h hn, if_pos hk, if_pos hk]; exact ⟨rfl, rfl⟩
theorem lay_no {d : LogV} {prev : Int} {e : List (Int × List UInt8)} (h : ∀ j, j < e.length → mat d prev e j = true) : layI d prev e = 0 ∧ layV d prev e = d := by
  unfold layI layV; rw [firstNo_no h, if_neg (Nat.lt_irrefl _), if_neg (Nat.lt_irrefl _)]; exact ⟨rfl, rfl⟩
theorem mat_eq {d : LogV} {prev : Int} {e : List (Int × List UInt8)} {k : Nat} {x : Int × List UInt8} (hk : k < e.length) (hx : e[k] = x) : mat d prev e k = (isV d (prev + 1 + k) && decide (trmV d (prev + 1 + k) = x.1)) := by
  unfold mat; rw [getD_at hk hx]
theorem mat_in {d : LogV} {prev : Int} {e : List (Int × List UInt8)} {k : Nat} (h : ∀ j, j < k → mat d prev e j = true) (h0 : d.base ≤ prev) (h1 : prev ≤ d.base + d.l.length) : prev + k ≤ d.base + d.l.length := by
  cases k with
  | zero => simpa using h1
  | succ k =>
    have := h k (by omega)
    unfold mat at this
    simp only [Bool.and_eq_true, isI] at this
    omega
def rstOk (b t : Int) : Prop := (0 ≤ b ∧ b ≤ 1099511627776) ∧ 0 ≤ t ∧ t ≤ 1099511627776
instance (b t : Int) : Decidable (rstOk b t) := by unfold rstOk; infer_instance
def appI (d : LogV) (t : Int) (x : List UInt8) : Int := if appOk d t x then lastI d + 1 else 0
def appE (d : LogV) (t : Int) (x : List UInt8) : Int := if appOk d t x then 0 else 151
theorem take_min {α : Type} {l : List α} {m : Int} (h : 0 < m) : l.take m.toNat = l.take (min m (l.length : Int)).toNat := by
  rcases Int.le_total m l.length with h2 | h2
  · rw [Int.min_eq_left h2]
  · rw [Int.min_eq_right h2, Int.toNat_natCast, List.take_length, List.take_of_length_le (by omega)]


theorem V.Row.mv1b {α : Type} {C : V.Cod α} {t i lo hi c : Nat} {w w' : World} {B : Nat → Prop} {a : Option Addr} {xs : List α} (h : V.Row C t w B lo hi a c xs) (f : Fr [i] w w') (hn : ¬ B i ∧ ¬ V.In lo hi i) : V.Row C t w' B lo hi a c xs :=
  h.mvE (X := fun j => j = i) (V.FrE.of1 f rfl) (fun j hj => hj ▸ hn)
structure Lg (w : World) (k g : Nat) (B : Nat → Prop) (d : LogV) : Prop where
  nk : ¬ B k
  ng : ¬ B g
  ok : (0 ≤ d.base ∧ d.base + d.l.length ≤ 2199023255552) ∧ d.l.length ≤ 1000000
  dl : ∀ x ∈ d.l, x.2.length ≤ 1000000
  gl : g < w.heap.size
  bl : ∀ j, B j → j < w.heap.size
  ex : ∃ a c, Cells w k [.int .i64 d.base, .int .i64 d.term, .slice a d.l.length c] 93 ∧ V.RowE V.Cod.ent 30 w B (fun j => j = g ∧ j ≠ k) a c d.l
section
variable {w w' : World} {k g : Nat} {B X : Nat → Prop} {d : LogV}
theorem Lg.gr (h : Lg w k g B d) (f : Gr w w') : Lg w' k g B d :=
  let ⟨a, c, h1, h2⟩ := h.ex; ⟨h.nk, h.ng, h.ok, h.dl, Nat.lt_of_lt_of_le h.gl f.size, fun j hj => Nat.lt_of_lt_of_le (h.bl j hj) f.size, ⟨a, c, h1.gr f, h2.gr f⟩⟩
theorem Lg.mvE (h : Lg w k g B d) (f : V.FrE X w w') (hn : ∀ j, X j → ¬ (j = k ∨ j = g ∨ B j)) : Lg w' k g B d :=
  let ⟨a, c, h1, h2⟩ := h.ex; ⟨h.nk, h.ng, h.ok, h.dl, Nat.lt_of_lt_of_le h.gl f.size, fun j hj => Nat.lt_of_lt_of_le (h.bl j hj) f.size, ⟨a, c, h1.mvE f (fun hX => hn k hX (.inl rfl)), h2.mvE f (fun j hj hB => hn j hj (hB.elim (fun h => .inr (.inr h)) (fun h => .inr (.inl h.1))))⟩⟩
theorem Lg.mv1 {i : Nat} (h : Lg w k g B d) (f : Fr [i] w w') (hn : ¬ (i = k ∨ i = g ∨ B i)) : Lg w' k g B d := h.mvE (X := fun j => j = i) (V.FrE.of1 f rfl) (fun j hj => hj ▸ hn)
theorem Lg.lt (h : Lg w k g B d) : k < w.heap.size := let ⟨a, c, h1, h2⟩ := h.ex; h1.lt
theorem Lg.mk2 {z c : Nat} {a : Option Addr} {B2 E2 : Nat → Prop} (Fk : Cells w k [.int .i64 d.base, .int .i64 d.term, .slice a d.l.length c] 93) (F : V.RowE V.Cod.ent 30 w B2 E2 a c d.l)
    (hok : (0 ≤ d.base ∧ d.base + d.l.length ≤ 2199023255552) ∧ d.l.length ≤ 1000000) (hdl : ∀ x ∈ d.l, x.2.length ≤ 1000000) (hE : ∀ j, E2 j → (j = g ∧ j ≠ k) ∨ z ≤ j) (hB : ∀ j, B2 j → B j ∨ (j = g ∧ j ≠ k) ∨ z ≤ j) (hk2 : ∀ j, B2 j ∨ E2 j → j ≠ k) (hgz : g < w.heap.size) (hl : ∀ j, B2 j ∨ E2 j → j < w.heap.size) :
    ∃ g' B', Lg w k g' B' d ∧ (g' = g ∨ z ≤ g') ∧ (∀ j, B' j → B j ∨ j = g ∨ z ≤ j) := by
  rcases F.ex with ⟨h1, h2, h3⟩ | ⟨r, D, h1, h2, h3, h4⟩
  · exact ⟨g, V.None', ⟨fun h => h, fun h => h, hok, hdl, hgz, fun j h => h.elim, ⟨a, c, Fk, ⟨.inl ⟨h1, h2, h3⟩⟩⟩⟩, .inl rfl, fun j h => h.elim⟩
  · have hr := hE r h1
    have hD : ∀ j, D j → B j ∨ (j = g ∧ j ≠ k) ∨ z ≤ j := fun j hj => (h3 j hj).elim (hB j) (fun h => .inr (hE j h))
    refine ⟨r, D, ⟨fun h => ?_, h2, hok, hdl, hl r (.inr h1), fun j hj => hl j (h3 j hj), ⟨a, c, Fk, ⟨.inr ⟨r, D, ⟨rfl, ?_⟩, h2, fun j h => .inl h, h4⟩⟩⟩⟩, hr.imp And.left id, fun j hj => (hD j hj).imp id (Or.imp And.left id)⟩
    · exact hk2 k (h3 k h) rfl
    · exact hk2 r (.inr h1)
end

set_option maxHeartbeats 900000 in
set_option maxRecDepth 10000 in
theorem number_spec {w : World}  {n : Int}  :
    Meets Try.prog 50 [.int .i64 n] w fun r w' => r = .bool (decide (0 ≤ n ∧ n ≤ 1099511627776)) ∧ w = w' := by
 refine V.enter (n := 9) Try.func50 rfl rfl (by decide) rfl ?_
 refine V.sr ?_
 refine V.ru 1 ?_
 refine V.nt ?_
 refine V.sr ?_
 refine V.ru 3 ?_
 refine V.andG T_ok 2 2 5 rfl rfl rfl rfl rfl rfl rfl rfl ?_
 refine V.ru 1 ?_
 refine V.nt ?_
 refine V.ret ?_
 refine V.done rfl ?_
 exact ⟨(congrArg Value.bool (by first | rfl | grind)), rfl⟩

set_option maxHeartbeats 900000 in
set_option maxRecDepth 10000 in
theorem base_spec {w : World} {k g : Nat} {B : Nat → Prop} {d : LogV} (FX : Lg w k g B d)   :
    Meets Try.prog 28 [.pointer (some ⟨k, 0, none⟩)] w fun r w' => r = .tuple #[.int .i64 d.base, .int .i64 d.term] ∧ Gr w w' := by
 obtain ⟨ao, co, Fk, Fo⟩ := FX.ex
 have hok := FX.ok
 have hdl := FX.dl
 have hkl := Fk.lt
 have hgl := FX.gl
 have hBl := FX.bl
 have hnk := FX.nk
 have hng := FX.ng
 have hFo : ∀ j, (B j ∨ (j = g ∧ j ≠ k)) → j < w.heap.size := fun j h => h.elim (hBl j) (fun h => h.1 ▸ hgl)
 have hlm := Fo.slB.len63
 have HG := V.Fr.refl [] w
 refine V.enter (n := 14) Try.func28 rfl rfl (by decide) rfl ?_
 refine V.sr ?_
 refine V.ru 2 ?_
 refine V.nt ?_
 refine V.seq ?_
 refine V.sr ?_
 refine V.ru 2 ?_
 refine V.nt ?_
 refine V.condN rfl rfl ?_
 refine V.skip ?_
 refine V.tN ?_
 refine V.seq ?_
 refine V.drawQ mixed (by kernel_rfl) ?_
 refine V.qrun T_ok 3 rfl ?_
 refine V.qloadO T_ok Fk rfl rfl rfl rfl rfl ?_
 refine V.qrun T_ok 3 rfl ?_
 refine V.qloadO T_ok Fk rfl rfl rfl rfl rfl ?_
 refine V.qrun T_ok 2 rfl ?_
 refine V.qnil ?_
 rintro w1 G2
 have z3 := V.Fr.size G2
 refine V.tN ?_
 refine V.ret ?_
 refine V.done rfl ?_
 replace HG := HG.grow G2
 exact ⟨(by first | rfl | simp only [List.length_set]), HG⟩

set_option maxHeartbeats 900000 in
set_option maxRecDepth 10000 in
theorem has_spec {w : World} {k g : Nat} {B : Nat → Prop} {d : LogV} (FX : Lg w k g B d) {i : Int}  :
    Meets Try.prog 47 [.pointer (some ⟨k, 0, none⟩), .int .i64 i] w fun r w' => r = .bool (hasV d i) ∧ Gr w w' := by
 obtain ⟨ao, co, Fk, Fo⟩ := FX.ex
 have hok := FX.ok
 have hdl := FX.dl
 have hkl := Fk.lt
 have hgl := FX.gl
 have hBl := FX.bl
 have hnk := FX.nk
 have hng := FX.ng
 have hFo : ∀ j, (B j ∨ (j = g ∧ j ≠ k)) → j < w.heap.size := fun j h => h.elim (hBl j) (fun h => h.1 ▸ hgl)
 have hlm := Fo.slB.len63
 have HG := V.Fr.refl [] w
 refine V.enter (n := 29) Try.func47 rfl rfl (by decide) rfl ?_
 refine V.sr ?_
 refine V.ru 1 ?_
 refine V.nt ?_
 refine V.seq ?_
 refine V.drawQ mixed (by kernel_rfl) ?_
 refine V.qrun T_ok 7 rfl ?_
 refine V.qyes rfl rfl rfl ?_
 refine V.qloadO T_ok Fk rfl rfl rfl rfl rfl ?_
 refine V.qrun T_ok 3 rfl ?_
 refine V.qsplit (j := 10) (t := 15) rfl rfl (fun g1_10 => ?_) (fun g1_10 => ?_)
 ·
  try replace g1_10 := V.dec g1_10
  try simp only [V.mk] at g1_10
  refine V.qrun T_ok 4 rfl ?_
  refine V.qyes rfl rfl rfl ?_
  refine V.qloadO T_ok Fk rfl rfl rfl rfl rfl ?_
  refine V.qrun T_ok 3 rfl ?_
  refine V.qyes rfl rfl rfl ?_
  refine V.qloadO T_ok Fk rfl rfl rfl rfl rfl ?_
  refine V.qrun T_ok 1 rfl ?_
  refine V.qyes rfl rfl rfl ?_
  refine V.qaddN rfl rfl rfl rfl rfl V.lenA V.lenA ?_
  refine V.qrun T_ok 3 rfl ?_
  refine V.qnil ?_
  rintro w1 G2
  have z3 := V.Fr.size G2
  refine V.tN ?_
  refine V.ret ?_
  refine V.done rfl ?_
  replace HG := HG.grow G2
  exact ⟨(congrArg Value.bool (by first | rfl | (unfold hasV; grind))), HG⟩
 ·
  try replace g1_10 := V.dec g1_10
  try simp only [V.mk] at g1_10
  refine V.qrun T_ok 14 rfl ?_
  refine V.qnil ?_
  rintro w4 G5
  have z6 := V.Fr.size G5
  refine V.tN ?_
  refine V.ret ?_
  refine V.done rfl ?_
  replace HG := HG.grow G5
  exact ⟨(congrArg Value.bool (by first | rfl | (unfold hasV; grind))), HG⟩

set_option maxHeartbeats 900000 in
set_option maxRecDepth 10000 in
theorem last_spec {w : World} {k g : Nat} {B : Nat → Prop} {d : LogV} (FX : Lg w k g B d)   :
    Meets Try.prog 33 [.pointer (some ⟨k, 0, none⟩)] w fun r w' => r = .tuple #[.int .i64 (lastI d), .int .i64 (lastT d)] ∧ Gr w w' := by
 obtain ⟨ao, co, Fk, Fo⟩ := FX.ex
 have hok := FX.ok
 have hdl := FX.dl
 have hkl := Fk.lt
 have hgl := FX.gl
 have hBl := FX.bl
 have hnk := FX.nk
 have hng := FX.ng
 have hFo : ∀ j, (B j ∨ (j = g ∧ j ≠ k)) → j < w.heap.size := fun j h => h.elim (hBl j) (fun h => h.1 ▸ hgl)
 have hlm := Fo.slB.len63
 have HG := V.Fr.refl [] w
 refine V.enter (n := 45) Try.func33 rfl rfl (by decide) rfl ?_
 refine V.sr ?_
 refine V.ru 2 ?_
 refine V.nt ?_
 refine V.seq ?_
 refine V.block ?_
 refine V.sr ?_
 refine V.ru 3 ?_
 refine V.nt ?_
 refine V.condN rfl rfl ?_
 refine V.sr ?_
 refine V.ru 3 ?_
 refine V.loadO T_ok Fk rfl rfl rfl rfl rfl ?_
 refine V.ru 3 ?_
 refine V.nt ?_
 refine V.condT rfl (fun h3 => ?_) (fun h3 => ?_)
 ·
  try replace h3 := V.dec h3
  try simp only [V.mk] at h3
  refine V.seq ?_
  refine V.drawQ mixed (by kernel_rfl) ?_
  refine V.qrun T_ok 3 rfl ?_
  refine V.qloadO T_ok Fk rfl rfl rfl rfl rfl ?_
  refine V.qrun T_ok 3 rfl ?_
  refine V.qloadO T_ok Fk rfl rfl rfl rfl rfl ?_
  refine V.qrun T_ok 2 rfl ?_
  refine V.qnil ?_
  rintro w1 G2
  have z3 := V.Fr.size G2
  refine V.tN ?_
  refine V.ret ?_
  refine V.bR ?_
  refine V.tR ?_
  refine V.done rfl ?_
  rw [show lastT d = d.term from lastT_nil (by omega), show lastI d = d.base by unfold lastI; omega]
  replace HG := HG.grow G2
  exact ⟨(by first | rfl | simp only [List.length_set]), HG⟩
 ·
  try replace h3 := V.dec h3
  try simp only [V.mk] at h3
  refine V.skip ?_
  refine V.bN ?_
  refine V.tN ?_
  refine V.seq ?_
  refine V.drawQ mixed (by kernel_rfl) ?_
  refine V.qrun T_ok 3 rfl ?_
  refine V.qloadO T_ok Fk rfl rfl rfl rfl rfl ?_
  refine V.qrun T_ok 3 rfl ?_
  refine V.qloadO T_ok Fk rfl rfl rfl rfl rfl ?_
  refine V.qrun T_ok 1 rfl ?_
  refine V.qaddN rfl rfl rfl rfl rfl V.lenA V.lenA ?_
  refine V.qrun T_ok 3 rfl ?_
  refine V.qloadO T_ok Fk rfl rfl rfl rfl rfl ?_
  refine V.qrun T_ok 3 rfl ?_
  refine V.qloadO T_ok Fk rfl rfl rfl rfl rfl ?_
  refine V.qrun T_ok 1 rfl ?_
  refine V.qsubN rfl rfl rfl rfl rfl V.lenA V.lenA ?_
  refine V.qelem T_ok Fo.slB rfl rfl sz30 rfl rfl rfl rfl V.lenA V.lenA ?_
  rintro b4 o5 cs6 hx7 hb8 hR14 hA9
  obtain ⟨x10, hx10⟩ : ∃ z', d.l[((d.l.length : Int) - 1).toNat] = z' := ⟨_, rfl⟩
  rw [hx10] at hR14
  obtain ⟨_, _, rfl, rfl, ⟨a11, c12, rfl, F13⟩⟩ := hR14
  try simp only [Int.toNat_natCast] at hx10 hx7
  refine V.qrun T_ok 1 rfl ?_
  refine V.qloadA T_ok (o0 := o5) (off := 0) hA9 rfl rfl rfl rfl rfl ?_
  refine V.qrun T_ok 2 rfl ?_
  refine V.qnil ?_
  rintro w15 G16
  have z17 := V.Fr.size G16
  refine V.tN ?_
  refine V.ret ?_
  refine V.done rfl ?_
  rw [show lastT d = x10.1 from lastT_at (n := ((d.l.length : Int) - 1).toNat) (by omega) (by omega) hx10]
  replace HG := HG.grow G16
  exact ⟨(by first | rfl | simp only [List.length_set]), HG⟩

set_option maxHeartbeats 900000 in
set_option maxRecDepth 10000 in
theorem term_spec {w : World} {k g : Nat} {B : Nat → Prop} {d : LogV} (FX : Lg w k g B d) {i : Int}  :
    Meets Try.prog 57 [.pointer (some ⟨k, 0, none⟩), .int .i64 i] w fun r w' => r = .tuple #[.int .i64 (trmV d i), .bool (isV d i)] ∧ Gr w w' := by
 obtain ⟨ao, co, Fk, Fo⟩ := FX.ex
 have hok := FX.ok
 have hdl := FX.dl
 have hkl := Fk.lt
 have hgl := FX.gl
 have hBl := FX.bl
 have hnk := FX.nk
 have hng := FX.ng
 have hFo : ∀ j, (B j ∨ (j = g ∧ j ≠ k)) → j < w.heap.size := fun j h => h.elim (hBl j) (fun h => h.1 ▸ hgl)
 have hlm := Fo.slB.len63
 have HG := V.Fr.refl [] w
 refine V.enter (n := 39) Try.func57 rfl rfl (by decide) rfl ?_
 refine V.sr ?_
 refine V.ru 2 ?_
 refine V.nt ?_
 refine V.seq ?_
 refine V.block ?_
 refine V.sr ?_
 refine V.ru 2 ?_
 refine V.call (has_spec (i := i) FX) rfl rfl rfl ?_
 rintro _ w1 ⟨rfl, G2⟩
 have z3 := V.Fr.size G2
 refine V.ru 1 ?_
 refine V.nt ?_
 refine V.condT rfl (fun h1 => ?_) (fun h1 => ?_)
 ·
  try replace h1 := V.dec h1
  try simp only [V.mk] at h1
  have hh := hasI.1 h1
  refine V.seq ?_
  refine V.drawQ mixed (by kernel_rfl) ?_
  refine V.qrun T_ok 3 rfl ?_
  replace Fk := Fk.gr G2
  refine V.qloadO T_ok Fk rfl rfl rfl rfl rfl ?_
  refine V.qrun T_ok 4 rfl ?_
  refine V.qloadO T_ok Fk rfl rfl rfl rfl rfl ?_
  refine V.qsubN rfl rfl rfl rfl rfl V.lenA V.lenA ?_
  refine V.qsubN rfl rfl rfl rfl rfl V.lenA V.lenA ?_
  replace Fo := Fo.gr G2
  refine V.qelem T_ok Fo.slB rfl rfl sz30 rfl rfl rfl rfl V.lenA V.lenA ?_
  rintro b4 o5 cs6 hx7 hb8 hR14 hA9
  obtain ⟨x10, hx10⟩ : ∃ z', d.l[((i - d.base) - 1).toNat] = z' := ⟨_, rfl⟩
  rw [hx10] at hR14
  obtain ⟨_, _, rfl, rfl, ⟨a11, c12, rfl, F13⟩⟩ := hR14
  try simp only [Int.toNat_natCast] at hx10 hx7
  refine V.qrun T_ok 1 rfl ?_
  refine V.qloadA T_ok (o0 := o5) (off := 0) hA9 rfl rfl rfl rfl rfl ?_
  refine V.qrun T_ok 2 rfl ?_
  refine V.qnil ?_
  rintro w15 G16
  have z17 := V.Fr.size G16
  refine V.tN ?_
  refine V.ret ?_
  refine V.bR ?_
  refine V.tR ?_
  refine V.done rfl ?_
  rw [show isV d i = true from isI.2 (by omega), show trmV d i = x10.1 from trm_at hh rfl (by omega) hx10]
  replace HG := HG.grow (G2.trans G16)
  exact ⟨(by first | rfl | simp only [List.length_set]), HG⟩
 ·
  try replace h1 := V.dec h1
  try simp only [V.mk] at h1
  have hh : ¬ (d.base < i ∧ i ≤ d.base + d.l.length) := fun h => by rw [hasI.2 h] at h1; cases h1
  refine V.sr ?_
  refine V.ru 7 ?_
  refine V.yes rfl rfl rfl ?_
  replace Fk := Fk.gr G2
  refine V.loadO T_ok Fk rfl rfl rfl rfl rfl ?_
  refine V.ru 3 ?_
  refine V.nt ?_
  refine V.condT rfl (fun h3 => ?_) (fun h3 => ?_)
  ·
   try replace h3 := V.dec h3
   try simp only [V.mk] at h3
   refine V.sr ?_
   refine V.ru 3 ?_
   refine V.loadO T_ok Fk rfl rfl rfl rfl rfl ?_
   refine V.ru 2 ?_
   refine V.nt ?_
   refine V.ret ?_
   refine V.bR ?_
   refine V.tR ?_
   refine V.done rfl ?_
   rw [show isV d i = true from isI.2 (by omega), show trmV d i = d.term by rw [show i = d.base by omega, trm_base]]
   replace HG := HG.grow G2
   exact ⟨(by first | rfl | simp only [List.length_set]), HG⟩
  ·
   try replace h3 := V.dec h3
   try simp only [V.mk] at h3
   refine V.skip ?_
   refine V.bN ?_
   refine V.tN ?_
   refine V.sr ?_
   refine V.ru 2 ?_
   refine V.nt ?_
   refine V.ret ?_
   refine V.done rfl ?_
   have hni : ¬ (d.base ≤ i ∧ i ≤ d.base + d.l.length) := fun h => hh (by omega)
   rw [show isV d i = false from Bool.eq_false_iff.2 (fun h => hni (isI.1 h)), trm_no hni]
   replace HG := HG.grow G2
   exact ⟨(by first | rfl | simp only [List.length_set]), HG⟩

abbrev V.Cod.oent : V.Cod (Int × List UInt8) := V.Cod.pair (V.Cod.int .i64) (V.Cod.own 5)
theorem ent_of {w : World} {D : Nat → Prop} {x : Int × List UInt8} {cs : List Value} (h : V.Cod.oent.R w D x cs) : V.Cod.ent.R w D x cs := by
  obtain ⟨c1, c2, e, h1, a, c, h2, h3⟩ := h
  exact ⟨c1, c2, e, h1, a, c, h2, h3.sl⟩
theorem V.Sl.entOf {w : World} {D : Nat → Prop} {a : Option Addr} {c : Nat} {xs : List (Int × List UInt8)} (h : Sl V.Cod.oent w D a c xs) : Sl V.Cod.ent w D a c xs :=
  ⟨h.cap, h.max, fun hn => by
    obtain ⟨b, o, h1, h2, h4⟩ := h.els hn
    refine ⟨b, o, h1, h2, fun i hi => ?_⟩
    obtain ⟨cs, h5, h6⟩ := h4 i hi
    exact ⟨cs, ent_of h5, h6⟩⟩

set_option maxHeartbeats 900000 in
set_option maxRecDepth 10000 in
theorem own_spec {w : World}  {t : Int} {D_x : Nat → Prop} {c_x : Nat} {a_x : Option Addr} {x : List UInt8} (F_x : Sl V.Cod.byte w D_x a_x c_x x) (hl : x.length ≤ 140737488355328) :
    Meets Try.prog 34 [.agg #[.int .i64 t, .slice a_x x.length c_x]] w fun r w' => ∃ (ra2 : Option Addr) (rc2 : Nat), r = .agg #[.int .i64 t, .slice ra2 x.length rc2] ∧ V.Row V.Cod.byte 5 w' V.None' w.heap.size w'.heap.size ra2 rc2 x ∧ Gr w w' := by
 replace F_x := F_x.flb
 have HG := V.Fr.refl [] w
 refine V.enter (n := 9) Try.func34 rfl rfl (by decide) rfl ?_
 refine V.sr ?_
 refine V.box rfl rfl rfl rfl ?_
 rintro k1 w3 s5 s6 G4 Fk2
 have z7 := V.Fr.size G4
 try simp only [V.cellsL, V.spliceL] at Fk2
 refine V.alloc zero30 rfl rfl rfl ?_
 rintro k8 w10 s12 s13 G11 Fk9
 have z14 := V.Fr.size G11
 try simp only [V.cellsL, V.spliceL] at Fk9
 refine V.nt ?_
 refine V.seq ?_
 refine V.drawGT 5 (V.sel [(4, (fun v wz => ∃ (ra1 : Option Addr) (rc1 : Nat), v = .slice ra1 x.length rc1 ∧ V.Row V.Cod.byte 5 wz V.None' w10.heap.size wz.heap.size ra1 rc1 x))]) mixed (by kernel_rfl) (V.mono_cons (by rintro v wz wz' g ⟨ra1, rc1, rfl, rF1⟩; exact ⟨ra1, rc1, rfl, (by first | exact (rF1.gr g).mono (V.In.sub (Nat.le_refl _) g.size) | exact rF1.gr g | exact (rF1.gr g).mono (fun _ h => h) (Nat.le_refl _) g.size | exact (rF1.gr g).mono (fun k h => ⟨h.1, Nat.lt_of_lt_of_le h.2 g.size⟩))⟩) V.mono_nil) ?_
 refine V.grun T_ok 1 rfl (V.sel_none rfl) ?_
 replace Fk2 := Fk2.gr G11
 refine V.gloadO T_ok (fun w' h => Fk2.gr h.1) rfl rfl rfl rfl rfl rfl ?_
 refine V.grun T_ok 1 rfl (V.sel_none rfl) ?_
 refine V.gloadO T_ok (fun w' h => Fk2.gr h.1) rfl rfl rfl rfl rfl rfl ?_
 replace F_x := F_x.gr (G4.trans G11)
 refine V.gcall (fun w' h => (clone_spec (F_x.gr h.1) V.lenA).mono (by rintro v w'' ⟨ra1, rc1, rfl, rF1, G⟩; exact ⟨⟨ra1, rc1, rfl, (by first | exact rF1.mono (V.In.mono_l h.1.size) | exact rF1 | exact rF1.mono (fun _ h => h) h.1.size (Nat.le_refl _))⟩, G⟩)) rfl rfl rfl rfl ?_
 rintro _ w18 - - ⟨a15, c16, rfl, -⟩
 refine V.gnil ?_
 rintro w19 G20 hH21
 have z22 := V.Fr.size G20
 have F17 : V.Row V.Cod.byte 5 w19 V.None' w10.heap.size w19.heap.size a15 c16 x := by
   obtain ⟨_, _, he, F0⟩ := (V.Hist.here (hH21 4))
   cases he
   exact F0
 clear hH21
 refine V.mkStruct T_ok zero30 rfl rfl rfl rfl rfl ?_
 replace Fk9 := Fk9.gr G20
 refine V.storeO Fk9 rfl rfl rfl rfl sz30 rfl rfl rfl rfl ?_
 rintro w23 G24 z26 Fs25
 clear Fk9
 have z27 := V.Fr.size G24
 have Fk9 := Fs25; clear Fs25
 simp only [V.spliceL, V.cellsL] at Fk9
 refine V.nt ?_
 refine V.ret ?_
 refine V.done1 rfl (V.resV_cell T_ok Fk9 rfl rfl) ?_
 replace F17 := F17.ma G24
 replace HG := HG.grow (G4.trans (G11.trans G20))
 replace HG := HG.n1 G24
 exact ⟨a15, c16, (by first | rfl | simp only [List.length_set]), F17.re, HG⟩

set_option maxHeartbeats 900000 in
set_option maxRecDepth 10000 in
theorem values_spec {w : World}  {D_l : Nat → Prop} {c_l : Nat} {a_l : Option Addr} {l : List (Int × List UInt8)} (F_l : Sl V.Cod.ent w D_l a_l c_l l)  :
    Meets Try.prog 66 [.slice a_l l.length c_l] w fun r w' => ∃ (rk1 : Nat), r = .func (.func 67) #[] #[.pointer (some ⟨rk1, 0, none⟩)] ∧ Cells w' rk1 [.slice a_l l.length c_l] 22 ∧ (w.heap.size ≤ rk1 ∧ rk1 < w'.heap.size) ∧ Gr w w' := by
 have HG := V.Fr.refl [] w
 refine V.enter (n := 4) Try.func66 rfl rfl (by decide) rfl ?_
 refine V.sr ?_
 refine V.box rfl rfl rfl rfl ?_
 rintro k1 w3 s5 s6 G4 Fk2
 have z7 := V.Fr.size G4
 try simp only [V.cellsL, V.spliceL] at Fk2
 refine V.ru 1 ?_
 refine V.nt ?_
 refine V.sr ?_
 refine V.ru 2 ?_
 refine V.nt ?_
 refine V.ret ?_
 refine V.done rfl ?_
 replace HG := HG.grow G4
 exact ⟨k1, (by first | rfl | simp only [List.length_set]), Fk2, ⟨by omega, by omega⟩, HG⟩

set_option maxHeartbeats 900000 in
set_option maxRecDepth 10000 in
theorem owned_spec {w : World}  {D_l : Nat → Prop} {c_l : Nat} {a_l : Option Addr} {l : List (Int × List UInt8)} (F_l : Sl V.Cod.ent w D_l a_l c_l l) (hD_l : ∀ k, D_l k → k < w.heap.size) (hl : l.length ≤ 1000000) (hx : ∀ x ∈ l, x.2.length ≤ 1000000) :
    Meets Try.prog 63 [.slice a_l l.length c_l] w fun r w' => ∃ (ra3 : Option Addr) (rc3 : Nat), r = .slice ra3 l.length rc3 ∧ V.Row V.Cod.oent 30 w' V.None' w.heap.size w'.heap.size ra3 rc3 l ∧ Gr w w' := by
 have HG := V.Fr.refl [] w
 refine V.denter (n := 14) Try.func63 rfl rfl (by decide) rfl ?_
 refine V.dseq ?_
 refine V.dregion ?_
 refine V.ru 1 ?_
 refine V.nil ?_
 refine V.dtN ?_
 refine V.dseq ?_
 refine V.dregion ?_
 refine V.alloc zero22 rfl rfl rfl ?_
 rintro k1 w3 s5 s6 G4 Fk2
 have z7 := V.Fr.size G4
 try simp only [V.cellsL, V.spliceL] at Fk2
 refine V.nil ?_
 refine V.dtN ?_
 refine V.dseq ?_
 refine V.dseq ?_
 refine V.dregion ?_
 refine V.ru 1 ?_
 replace F_l := F_l.gr G4
 refine V.call (values_spec F_l) rfl rfl rfl ?_
 rintro _ w11 ⟨k8, rfl, F9, ⟨h10l, h10u⟩, G12⟩
 have z13 := V.Fr.size G12
 refine V.nil ?_
 refine V.dtN ?_
 refine V.dblock ?_
 refine V.rangeF rfl (V.callable Try.func67 rfl (by decide)) ?_
 rintro fn22 r14 d15 l16 w17 hr18 G19 hd23 hl24 hs25 FD20 FL21
 have z26 := V.Fr.size G19
 refine V.denterIn (n := 16) Try.func67 rfl rfl rfl ?_
 refine V.dseq ?_
 refine V.dregion ?_
 replace F9 := F9.gr G19
 refine V.loadO T_ok F9 rfl rfl rfl rfl rfl ?_
 refine V.ru 2 ?_
 refine V.nil ?_
 refine V.dtN ?_
 refine V.dblock ?_
 replace F_l := F_l.gr (G12.trans G19)
 have hl63 := F_l.len63
 replace Fk2 := Fk2.gr (G12.trans G19)
 replace HG := HG.grow (G4.trans (G12.trans G19))
 refine V.dloopM (fun m e v28 => Fr [] w v28 ∧ w17.heap.size ≤ v28.heap.size ∧ Sl V.Cod.ent v28 D_l a_l c_l l ∧ Cells v28 k8 [.slice a_l l.length c_l] 22 ∧ V.ObjAt v28 d15 (.deferred (some [])) ∧ V.ObjAt v28 l16 (.loop (r14 .ready none)) ∧ ∃ (i : Nat) (ra : Option Addr) (rc : Nat) , m = l.length - i ∧ i ≤ l.length ∧ Cells v28 k1 [.slice ra (l.take i).length rc] 22 ∧ V.Row V.Cod.oent 30 v28 V.None' w17.heap.size v28.heap.size ra rc (l.take i) ∧ e 0 = .func (.yield l16) #[] #[] ∧ e 5 = .slice a_l l.length c_l ∧ e 6 = .int .i64 (l.length : Int) ∧ e 7 = .int .i64 (i : Int)) ?_ ?_
 ·
  exact ⟨_, HG, (by omega), F_l, F9, FD20, FL21, (0), (none), (0), rfl, (Nat.zero_le _), Fk2, V.Row.nil, rfl, rfl, rfl, rfl⟩
 clear HG F_l F9 FD20 FL21 Fk2
 rintro _ e v28 ⟨HG, z29, F_l, F9, FD20, FL21, i, ra, rc, rfl, hi, Fk2, FRo, he0_0, he0_5, he0_6, he0_7⟩
 refine V.dknownC (t := 0) he0_0 ?_
 refine V.dknownC (t := 5) he0_5 ?_
 refine V.dknownC (t := 6) he0_6 ?_
 refine V.dknownC (t := 7) he0_7 ?_
 refine V.dseq ?_
 refine V.dregion ?_
 refine V.ru 1 ?_
 refine V.nil ?_
 refine V.dtN ?_
 refine V.dseq ?_
 refine V.dcondT rfl (fun h1 => ?_) (fun h1 => ?_)
 ·
  try replace h1 := V.dec h1
  try simp only [V.mk] at h1
  refine V.dskip ?_
  refine V.dtN ?_
  refine V.dseq ?_
  refine V.dblock ?_
  refine V.dseq ?_
  refine V.dregion ?_
  refine V.elem T_ok F_l rfl rfl sz30 rfl rfl rfl rfl V.lenA V.lenA ?_
  rintro b30 o31 cs32 hx33 hb34 hR40 hA35
  obtain ⟨x36, hx36⟩ : ∃ z', l[((i : Int)).toNat] = z' := ⟨_, rfl⟩
  rw [hx36] at hR40
  obtain ⟨_, _, rfl, rfl, ⟨a37, c38, rfl, F39⟩⟩ := hR40
  try simp only [Int.toNat_natCast] at hx36 hx33
  refine V.loadA T_ok (o0 := o31) (off := 0) hA35 rfl rfl rfl rfl rfl ?_
  refine V.alloc zero30 rfl rfl rfl ?_
  rintro k41 w43 s45 s46 G44 Fk42
  have z47 := V.Fr.size G44
  try simp only [V.cellsL, V.spliceL] at Fk42
  refine V.storeO Fk42 rfl rfl rfl rfl sz30 rfl rfl rfl rfl ?_
  rintro w48 G49 z51 Fs50
  clear Fk42
  have z52 := V.Fr.size G49
  have Fk42 := Fs50; clear Fs50
  simp only [V.spliceL, V.cellsL] at Fk42
  refine V.nil ?_
  refine V.dtN ?_
  refine V.dseq ?_
  have hxl := hx x36 (hx36 ▸ List.getElem_mem (by omega))
  refine V.iregion ?_
  refine V.icut 2 ?_
  refine V.ru 1 ?_
  refine V.loadO T_ok Fk42 rfl rfl rfl rfl rfl ?_
  refine V.nil ?_
  refine V.icutN ?_
  replace FL21 := FL21.gr G44
  replace FL21 := FL21.mv1 G49 (by omega)
  refine V.iyield rfl rfl rfl rfl hr18 FL21 rfl ?_
  refine V.dregion ?_
  refine V.alloc zero30 rfl rfl rfl ?_
  rintro k53 w55 s57 s58 G56 Fk54
  have z59 := V.Fr.size G56
  try simp only [V.cellsL, V.spliceL] at Fk54
  refine V.storeO Fk54 rfl rfl rfl rfl sz30 rfl rfl rfl rfl ?_
  rintro w60 G61 z63 Fs62
  clear Fk54
  have z64 := V.Fr.size G61
  have Fk54 := Fs62; clear Fs62
  simp only [V.spliceL, V.cellsL] at Fk54
  refine V.nil ?_
  replace FL21 := FL21.gr G56
  replace FL21 := FL21.mv1 G61 (by omega)
  refine V.beginN FL21 ?_
  rintro w65 G66 Fn67
  clear FL21
  have z68 := V.Fr.size G66
  have FL21 := Fn67; clear Fn67
  refine V.dblock ?_
  replace F_l := F_l.gr G44
  replace F_l := F_l.mb G49 hD_l
  replace F_l := F_l.gr G56
  replace F_l := F_l.mb G61 hD_l
  replace F_l := F_l.mb G66 hD_l
  replace Fk2 := Fk2.gr G44
  replace Fk2 := Fk2.ma G49
  replace Fk2 := Fk2.gr G56
  replace Fk2 := Fk2.ma G61
  replace Fk2 := Fk2.ma G66
  replace F9 := F9.gr G44
  replace F9 := F9.ma G49
  replace F9 := F9.gr G56
  replace F9 := F9.ma G61
  replace F9 := F9.ma G66
  replace FD20 := FD20.gr G44
  replace FD20 := FD20.mv1 G49 (by omega)
  replace FD20 := FD20.gr G56
  replace FD20 := FD20.mv1 G61 (by omega)
  replace FD20 := FD20.mv1 G66 (by omega)
  replace FRo := FRo.gr G44
  replace FRo := FRo.ma G49
  replace FRo := FRo.gr G56
  replace FRo := FRo.ma G61
  replace FRo := FRo.ma G66
  replace F39 := F39.gr G44
  replace F39 := F39.mb G49 hD_l
  replace F39 := F39.gr G56
  replace F39 := F39.mb G61 hD_l
  replace F39 := F39.mb G66 hD_l
  replace Fk42 := Fk42.gr G56
  replace Fk42 := Fk42.ma G61
  replace Fk42 := Fk42.ma G66
  replace Fk54 := Fk54.ma G66
  replace HG := HG.grow G44
  replace HG := HG.n1 G49
  replace HG := HG.grow G56
  replace HG := HG.n1 G61
  replace HG := HG.n1 G66
  refine V.ddrawGT 4 (V.sel [(2, (fun v wz => ∃ (ra2 : Option Addr) (rc2 : Nat), v = .agg #[.int .i64 x36.1, .slice ra2 x36.2.length rc2] ∧ V.Row V.Cod.byte 5 wz V.None' w65.heap.size wz.heap.size ra2 rc2 x36.2)), (3, V.newSl V.Cod.oent w65.heap.size 1 ([(x36.1, x36.2)] : List (Int × List UInt8)))]) mixed (by kernel_rfl) (V.mono_cons (by rintro v wz wz' g ⟨ra2, rc2, rfl, rF2⟩; exact ⟨ra2, rc2, rfl, (by first | exact (rF2.gr g).mono (V.In.sub (Nat.le_refl _) g.size) | exact rF2.gr g | exact (rF2.gr g).mono (fun _ h => h) (Nat.le_refl _) g.size | exact (rF2.gr g).mono (fun k h => ⟨h.1, Nat.lt_of_lt_of_le h.2 g.size⟩))⟩) (V.mono_cons V.newSl_mono V.mono_nil)) ?_
  refine V.gloadO T_ok (fun w' h => Fk2.gr h.1) rfl rfl rfl rfl rfl rfl ?_
  refine V.gloadO T_ok (fun w' h => Fk54.gr h.1) rfl rfl rfl rfl rfl rfl ?_
  refine V.gcall (fun w' h => (own_spec (t := x36.1) (F39.gr h.1) V.lenA).mono (by rintro v w'' ⟨ra2, rc2, rfl, rF2, G⟩; exact ⟨⟨ra2, rc2, rfl, (by first | exact rF2.mono (V.In.mono_l h.1.size) | exact rF2 | exact rF2.mono (fun _ h => h) h.1.size (Nat.le_refl _))⟩, G⟩)) rfl rfl rfl rfl ?_
  rintro _ w72 - - ⟨a69, c70, rfl, -⟩
  refine V.gmkSlice T_ok (xs := ([(x36.1, x36.2)] : List (Int × List UInt8))) (C := V.Cod.oent) zero30 rfl rfl sz30 rfl rfl rfl rfl rfl rfl rfl (Nat.le_refl _) (fun w' h w'' g hsz Fk => by have hz1 := h.1.size; have hz2 := g.size; exact (V.Cells.sl Fk (V.reps_cons (x := (x36.1, x36.2)) ⟨_, _, rfl, rfl, ⟨_, _, rfl, (V.OwnS.ofRow ((show V.Row V.Cod.byte 5 w' V.None' w65.heap.size w'.heap.size a69 c70 x36.2 from (by obtain ⟨_, _, he, F0⟩ := (V.Hist.here (h.get (i := 2) rfl)); cases he; exact F0)).gr g)).mono (fun k h => ⟨by have := h.1; omega, by have := h.2; omega⟩)⟩⟩ rfl rfl) ⟨by have := h.1.size; omega, by omega⟩ (by simp [maxLen]))) ?_
  rintro k73
  refine V.gnil ?_
  rintro w75 G76 hH77
  have z78 := V.Fr.size G76
  have F71 : V.Row V.Cod.byte 5 w75 V.None' w65.heap.size w75.heap.size a69 c70 x36.2 := by
    obtain ⟨_, _, he, F0⟩ := (V.Hist.here (V.Hist.old (hH77 2)))
    cases he
    exact F0
  have F74 := V.newSl_get (V.Hist.here (hH77 3))
  clear hH77
  refine V.iall ?_
  replace FRo := FRo.gr G76
  refine V.appendR (FRo) (F74.from Try.underlying22) elT22_22 rfl rfl rfl rfl rfl V.lenA (by unfold maxLen; first | omega | (simp only [List.length_take, List.length_drop, List.length_append, List.length_cons, List.length_nil, List.length_replicate, List.length_set, V.length_data, V.S_size]; omega)) (by omega) (by omega) (fun _ h => h.elim) (by first | omega | (intro k h; (try dsimp only at h); first | exact .inl h | exact .inr ⟨by have := h.1; omega, by have := h.2; omega⟩ | (rcases h with h | h <;> first | exact .inr ⟨by omega, by omega⟩ | exact .inr ⟨by have := h.1; omega, by have := h.2; omega⟩ | exact .inl h) | (rcases h with h | h | h | h | h | h <;> first | exact .inl h | exact .inr ⟨by omega, by omega⟩))) ?_
  rintro a79 c80 w82 G83 s84 F81
  clear FRo
  have z85 := Go.RowKit.Below.size G83
  replace Fk2 := Fk2.gr G76
  replace Fk2 := V.Cells.bl Fk2 G83 (by first | assumption | omega)
  refine V.storeO Fk2 rfl rfl rfl rfl sz22 rfl rfl rfl rfl ?_
  rintro w86 G87 z89 Fs88
  clear Fk2
  have z90 := V.Fr.size G87
  have Fk2 := Fs88; clear Fs88
  simp only [V.spliceL, V.cellsL] at Fk2
  refine V.nil ?_
  refine V.dbN ?_
  replace FL21 := FL21.gr G76
  replace FL21 := V.ObjAt.bl FL21 G83 (by omega)
  replace FL21 := FL21.mv1 G87 (by omega)
  refine V.roundN FL21 ?_
  rintro w91 G92 Fn93
  clear FL21
  have z94 := V.Fr.size G92
  have FL21 := Fn93; clear Fn93
  refine V.iall ?_
  refine V.ru 1 ?_
  refine V.nil ?_
  refine V.dtN ?_
  refine V.dcondN rfl rfl ?_
  refine V.dskip ?_
  refine V.dbN ?_
  refine V.dtN ?_
  refine V.dregion ?_
  refine V.addN rfl rfl rfl rfl rfl V.lenA V.lenA ?_
  refine V.ru 1 ?_
  refine V.nil ?_
  refine V.dtN ?_
  have hr95 : (l.take i) ++ ([(x36.1, x36.2)] : List (Int × List UInt8)) = l.take (i + 1) := by subst hx36; rw [List.take_succ_eq_append_getElem (by omega)]
  replace F81 := F81.ma G87
  replace F81 := F81.ma G92
  replace Fk2 := Fk2.ma G92
  rw [hr95] at F81 Fk2
  replace F_l := F_l.gr G76
  replace F_l := V.Sl.bl F_l G83 (by first | exact (fun _ h => by have := h.2; omega) | (intro k h; have := hD_l k h; omega))
  replace F_l := F_l.mb G87 hD_l
  replace F_l := F_l.mb G92 hD_l
  replace F9 := F9.gr G76
  replace F9 := V.Cells.bl F9 G83 (by first | assumption | omega)
  replace F9 := F9.ma G87
  replace F9 := F9.ma G92
  replace FD20 := FD20.gr G76
  replace FD20 := V.ObjAt.bl FD20 G83 (by omega)
  replace FD20 := FD20.mv1 G87 (by omega)
  replace FD20 := FD20.mv1 G92 (by omega)
  replace HG := HG.grow G76
  replace HG := HG.bl (Go.RowKit.Below.mono G83 (by first | assumption | omega))
  replace HG := HG.n1 G87
  replace HG := HG.n1 G92
  exact ⟨rfl, _, (by omega), HG, (by omega), F_l, F9, FD20, FL21, (i + 1), (a79), (c80), rfl, (by omega), Fk2, F81.re, rfl, rfl, rfl, rfl⟩
 ·
  try replace h1 := V.dec h1
  try simp only [V.mk] at h1
  refine V.dexit ?_
  refine V.dtX ?_
  refine V.dtX ?_
  refine V.dbE ?_
  refine V.ddone0N ?_
  refine V.done rfl ?_
  refine V.iterN FL21 ?_
  rintro w96 G97
  clear FL21
  have z98 := V.Fr.size G97
  refine V.dbN ?_
  refine V.dtN ?_
  refine V.dseq ?_
  refine V.dregion ?_
  replace Fk2 := Fk2.ma G97
  refine V.loadO T_ok Fk2 rfl rfl rfl rfl rfl ?_
  refine V.ru 1 ?_
  refine V.nil ?_
  refine V.dtN ?_
  refine V.dret ?_
  replace FD20 := FD20.mv1 G97 (by omega)
  refine V.ddone1 FD20 ?_
  rintro w99 G100
  clear FD20
  have z101 := V.Fr.size G100
  refine V.done rfl ?_
  have hti : l.take i = l := List.take_of_length_le (by omega)
  replace FRo := FRo.ma G97
  replace FRo := FRo.ma G100
  rw [hti] at FRo ⊢
  replace HG := HG.n1 G97
  replace HG := HG.n1 G100
  exact ⟨ra, rc, (by first | rfl | simp only [List.length_set]), FRo.re, HG⟩

set_option maxHeartbeats 900000 in
set_option maxRecDepth 10000 in
theorem clone_ent {w : World}  {D_l : Nat → Prop} {c_l : Nat} {a_l : Option Addr} {l : List (Int × List UInt8)} (F_l : Sl V.Cod.ent w D_l a_l c_l l) (hD_l : ∀ k, D_l k → k < w.heap.size) (hl : l.length ≤ 1000000) :
    Meets Try.prog 51 [.slice a_l l.length c_l] w fun r w' => ∃ (ra4 : Option Addr) (rc4 : Nat), r = .slice ra4 l.length rc4 ∧ V.Row V.Cod.ent 30 w' D_l w.heap.size w'.heap.size ra4 rc4 l ∧ Gr w w' := by
 have HG := V.Fr.refl [] w
 refine V.enter (n := 8) Try.func51 rfl rfl (by decide) rfl ?_
 refine V.sr ?_
 refine V.ru 1 ?_
 refine V.nt ?_
 refine V.seq ?_
 refine V.sr ?_
 refine V.ru 2 ?_
 refine V.nt ?_
 refine V.condT rfl (fun h1 => ?_) (fun h1 => ?_)
 ·
  try replace h1 := V.dec h1
  try simp only [V.mk] at h1
  refine V.sr ?_
  refine V.ru 1 ?_
  refine V.nt ?_
  refine V.ret ?_
  refine V.tR ?_
  refine V.done rfl ?_
  have ha : a_l = none := by cases a_l with
    | none => rfl
    | some _ => simp at h1
  have hb := F_l.none ha
  subst hb
  exact ⟨none, 0, (by first | rfl | simp only [List.length_set]), V.Row.nil, HG⟩
 ·
  try replace h1 := V.dec h1
  try simp only [V.mk] at h1
  refine V.skip ?_
  refine V.tN ?_
  refine V.sr ?_
  refine V.mkSlice T_ok zero30 rfl rfl sz30 rfl rfl rfl rfl rfl rfl ?_
  rintro k1 w4 s6 s7 G5 Fk2
  have z8 := V.Fr.size G5
  have F3 := (V.rowOfC (C := V.Cod.ent) (xs := ([] : List (Int × List UInt8))) Fk2 rfl rfl).mono (B' := D_l) (fun _ h => h.elim) (Nat.le_refl _) (Nat.le_refl _)
  clear Fk2
  refine V.ru 1 ?_
  replace F_l := F_l.gr G5
  refine V.appendR (F3) (F_l.from Try.underlying22) elT22_22 rfl rfl rfl rfl rfl V.lenA (by unfold maxLen; first | omega | (simp only [List.length_take, List.length_drop, List.length_append, List.length_cons, List.length_nil, List.length_replicate, List.length_set, V.length_data, V.S_size]; omega)) (by omega) (by omega) (by first | omega | (intro k h; first | omega | (have := hD_l k h; omega))) (by first | omega | (intro k h; (try dsimp only at h); first | exact .inl h | exact .inr ⟨by have := h.1; omega, by have := h.2; omega⟩ | (rcases h with h | h <;> first | exact .inr ⟨by omega, by omega⟩ | exact .inr ⟨by have := h.1; omega, by have := h.2; omega⟩ | exact .inl h) | (rcases h with h | h | h | h | h | h <;> first | exact .inl h | exact .inr ⟨by omega, by omega⟩))) ?_
  rintro a9 c10 w12 G13 s14 F11
  clear F3
  have z15 := Go.RowKit.Below.size G13
  rw [List.nil_append] at F11 ⊢
  refine V.ru 1 ?_
  refine V.nt ?_
  refine V.ret ?_
  refine V.done rfl ?_
  replace HG := HG.grow G5
  replace HG := HG.bl (Go.RowKit.Below.mono G13 (by first | assumption | omega))
  exact ⟨a9, c10, (by first | rfl | simp only [List.length_set]), F11.re, HG⟩

set_option maxHeartbeats 900000 in
set_option maxRecDepth 10000 in
theorem behind_spec {w : World} {k g : Nat} {B : Nat → Prop} {d : LogV} (FX : Lg w k g B d) {i : Int} {t : Int}  :
    Meets Try.prog 18 [.pointer (some ⟨k, 0, none⟩), .int .i64 i, .int .i64 t] w fun r w' => r = .bool (behV d i t) ∧ Gr w w' := by
 obtain ⟨ao, co, Fk, Fo⟩ := FX.ex
 have hok := FX.ok
 have hdl := FX.dl
 have hkl := Fk.lt
 have hgl := FX.gl
 have hBl := FX.bl
 have hnk := FX.nk
 have hng := FX.ng
 have hFo : ∀ j, (B j ∨ (j = g ∧ j ≠ k)) → j < w.heap.size := fun j h => h.elim (hBl j) (fun h => h.1 ▸ hgl)
 have hlm := Fo.slB.len63
 have HG := V.Fr.refl [] w
 refine V.enter (n := 31) Try.func18 rfl rfl (by decide) rfl ?_
 refine V.sr ?_
 refine V.ru 1 ?_
 refine V.nt ?_
 refine V.sr ?_
 refine V.ru 1 ?_
 refine V.call (last_spec FX) rfl rfl rfl ?_
 rintro _ w1 ⟨rfl, G2⟩
 have z3 := V.Fr.size G2
 refine V.ru 5 ?_
 refine V.nt ?_
 refine V.sr ?_
 refine V.ru 7 ?_
 refine V.split (j := 6) (t := 20) rfl rfl (fun g2_6 => ?_) (fun g2_6 => ?_)
 ·
  try replace g2_6 := V.dec g2_6
  try simp only [V.mk] at g2_6
  refine V.ru 11 ?_
  refine V.nt ?_
  refine V.ret ?_
  refine V.done rfl ?_
  replace HG := HG.grow G2
  exact ⟨(congrArg Value.bool (by first | rfl | (unfold behV; grind))), HG⟩
 ·
  try replace g2_6 := V.dec g2_6
  try simp only [V.mk] at g2_6
  refine V.ru 4 ?_
  refine V.split (j := 10) (t := 24) rfl rfl (fun g2_10 => ?_) (fun g2_10 => ?_)
  ·
   try replace g2_10 := V.dec g2_10
   try simp only [V.mk] at g2_10
   refine V.ru 7 ?_
   refine V.nt ?_
   refine V.ret ?_
   refine V.done rfl ?_
   replace HG := HG.grow G2
   exact ⟨(congrArg Value.bool (by first | rfl | (unfold behV; grind))), HG⟩
  ·
   try replace g2_10 := V.dec g2_10
   try simp only [V.mk] at g2_10
   refine V.ru 7 ?_
   refine V.nt ?_
   refine V.ret ?_
   refine V.done rfl ?_
   replace HG := HG.grow G2
   exact ⟨(congrArg Value.bool (by first | rfl | (unfold behV; grind))), HG⟩

set_option maxHeartbeats 900000 in
set_option maxRecDepth 10000 in
theorem reset_spec {w : World} {k g : Nat} {B : Nat → Prop} {d : LogV} (FX : Lg w k g B d) {b : Int} {t : Int}  :
    Meets Try.prog 32 [.pointer (some ⟨k, 0, none⟩), .int .i64 b, .int .i64 t] w fun r w' => ∃ (rg5 : Nat) (rB5 : Nat → Prop), r = .int .i64 (if rstOk b t then 0 else 1) ∧ Lg w' k rg5 rB5 ((if rstOk b t then ⟨b, t, []⟩ else d)) ∧ (rg5 = g ∨ w.heap.size ≤ rg5) ∧ (∀ j, rB5 j → B j ∨ j = g ∨ w.heap.size ≤ j) ∧ Fr [k] w w' := by
 obtain ⟨ao, co, Fk, Fo⟩ := FX.ex
 have hok := FX.ok
 have hdl := FX.dl
 have hkl := Fk.lt
 have hgl := FX.gl
 have hBl := FX.bl
 have hnk := FX.nk
 have hng := FX.ng
 have hFo : ∀ j, (B j ∨ (j = g ∧ j ≠ k)) → j < w.heap.size := fun j h => h.elim (hBl j) (fun h => h.1 ▸ hgl)
 have hlm := Fo.slB.len63
 have HG := V.Fr.refl [k] w
 refine V.enter (n := 24) Try.func32 rfl rfl (by decide) rfl ?_
 refine V.sr ?_
 refine V.ru 1 ?_
 refine V.nt ?_
 refine V.seq ?_
 refine V.sr ?_
 refine V.ru 4 ?_
 refine V.yes rfl rfl rfl ?_
 refine V.call (number_spec (n := b)) rfl rfl rfl ?_
 rintro _ w_ ⟨rfl, rfl⟩
 refine V.ru 3 ?_
 refine V.split (j := 7) (t := 14) rfl rfl (fun g1_7 => ?_) (fun g1_7 => ?_)
 ·
  try replace g1_7 := V.dec g1_7
  try simp only [V.mk] at g1_7
  refine V.ru 4 ?_
  refine V.nt ?_
  refine V.condY rfl rfl ?_
  refine V.sr ?_
  refine V.ru 1 ?_
  refine V.nt ?_
  refine V.ret ?_
  refine V.tR ?_
  have hno : ¬ rstOk b t := by unfold rstOk; grind
  rw [if_neg hno, if_neg hno]
  have FX9 := FX
  have hg9 : g = g ∨ w.heap.size ≤ g := .inl rfl
  have hB9 : ∀ j, B j → B j ∨ j = g ∨ w.heap.size ≤ j := fun j h => .inl h
  refine V.done rfl ?_
  exact ⟨_, _, (by first | rfl | simp only [List.length_set]), FX9, hg9, hB9, HG⟩
 ·
  try replace g1_7 := V.dec g1_7
  try simp only [V.mk] at g1_7
  refine V.ru 1 ?_
  refine V.yes rfl rfl rfl ?_
  refine V.call (number_spec (n := t)) rfl rfl rfl ?_
  rintro _ w_ ⟨rfl, rfl⟩
  refine V.ru 2 ?_
  refine V.nt ?_
  refine V.condT rfl (fun h1 => ?_) (fun h1 => ?_)
  ·
   try replace h1 := V.dec h1
   try simp only [V.mk] at h1
   refine V.sr ?_
   refine V.ru 1 ?_
   refine V.nt ?_
   refine V.ret ?_
   refine V.tR ?_
   have hno : ¬ rstOk b t := by unfold rstOk; grind
   rw [if_neg hno, if_neg hno]
   have FX9 := FX
   have hg9 : g = g ∨ w.heap.size ≤ g := .inl rfl
   have hB9 : ∀ j, B j → B j ∨ j = g ∨ w.heap.size ≤ j := fun j h => .inl h
   refine V.done rfl ?_
   exact ⟨_, _, (by first | rfl | simp only [List.length_set]), FX9, hg9, hB9, HG⟩
  ·
   try replace h1 := V.dec h1
   try simp only [V.mk] at h1
   refine V.skip ?_
   refine V.tN ?_
   refine V.sr ?_
   refine V.ru 3 ?_
   refine V.mkStruct T_ok zero93 rfl rfl rfl rfl rfl ?_
   refine V.ru 1 ?_
   refine V.storeO Fk rfl rfl rfl rfl sz93 rfl rfl rfl rfl ?_
   rintro w3 G4 z6 Fs5
   clear Fk
   have z7 := V.Fr.size G4
   have Fk := Fs5; clear Fs5
   simp only [V.spliceL, V.cellsL] at Fk
   refine V.nt ?_
   refine V.sr ?_
   refine V.ru 1 ?_
   refine V.nt ?_
   refine V.ret ?_
   have hyes : rstOk b t := by unfold rstOk; grind
   rw [if_pos hyes, if_pos hyes]
   have hyy : (0 ≤ b ∧ b ≤ 1099511627776) ∧ 0 ≤ t ∧ t ≤ 1099511627776 := hyes
   obtain ⟨g9, B9, FX9, hg9, hB9⟩ := Lg.mk2 (d := ⟨b, t, []⟩) (g := g) (B := B) (z := w.heap.size) Fk (V.RowE.nil (B := V.None') (E := V.None')) (by dsimp only; (try simp only [List.length_append, List.length_drop, List.length_take, List.length_cons, List.length_nil]); omega) (fun x h => by cases h) (by intro j h; first | exact h.elim | exact (h.elim (fun h => h.elim) (fun h => h.elim)) | ((try dsimp only [V.In] at h ⊢); first | omega | grind)) (by intro j h; first | exact h.elim | exact (h.elim (fun h => h.elim) (fun h => h.elim)) | ((try dsimp only [V.In] at h ⊢); first | omega | grind)) (by intro j h; first | exact h.elim | exact (h.elim (fun h => h.elim) (fun h => h.elim)) | ((try dsimp only [V.In] at h ⊢); first | omega | grind)) (by omega) (by intro j h; first | exact h.elim | exact (h.elim (fun h => h.elim) (fun h => h.elim)) | ((try dsimp only [V.In] at h ⊢); first | omega | grind))
   refine V.done rfl ?_
   replace HG := HG.n1 G4
   exact ⟨_, _, (by first | rfl | simp only [List.length_set]), FX9, hg9, hB9, HG⟩

set_option maxHeartbeats 900000 in
set_option maxRecDepth 10000 in
theorem entry_spec {w : World} {k g : Nat} {B : Nat → Prop} {d : LogV} (FX : Lg w k g B d) {i : Int}  :
    Meets Try.prog 27 [.pointer (some ⟨k, 0, none⟩), .int .i64 i] w fun r w' => ∃ (ra6 : Option Addr) (rc6 : Nat), r = .tuple #[.agg #[.int .i64 ((entV d i).1), .slice ra6 ((entV d i).2).length rc6], .bool (hasV d i)] ∧ V.Row V.Cod.byte 5 w' V.None' w.heap.size w'.heap.size ra6 rc6 ((entV d i).2) ∧ Gr w w' := by
 obtain ⟨ao, co, Fk, Fo⟩ := FX.ex
 have hok := FX.ok
 have hdl := FX.dl
 have hkl := Fk.lt
 have hgl := FX.gl
 have hBl := FX.bl
 have hnk := FX.nk
 have hng := FX.ng
 have hFo : ∀ j, (B j ∨ (j = g ∧ j ≠ k)) → j < w.heap.size := fun j h => h.elim (hBl j) (fun h => h.1 ▸ hgl)
 have hlm := Fo.slB.len63
 have HG := V.Fr.refl [] w
 refine V.enter (n := 25) Try.func27 rfl rfl (by decide) rfl ?_
 refine V.sr ?_
 refine V.alloc zero30 rfl rfl rfl ?_
 rintro k1 w3 s5 s6 G4 Fk2
 have z7 := V.Fr.size G4
 try simp only [V.cellsL, V.spliceL] at Fk2
 refine V.ru 1 ?_
 refine V.nt ?_
 refine V.seq ?_
 refine V.sr ?_
 refine V.ru 2 ?_
 replace FX := FX.gr G4
 refine V.call (has_spec (i := i) FX) rfl rfl rfl ?_
 rintro _ w8 ⟨rfl, G9⟩
 have z10 := V.Fr.size G9
 refine V.ru 1 ?_
 refine V.nt ?_
 refine V.condT rfl (fun h1 => ?_) (fun h1 => ?_)
 ·
  try replace h1 := V.dec h1
  try simp only [V.mk] at h1
  refine V.sr ?_
  refine V.mkStruct T_ok zero30 rfl rfl rfl rfl rfl ?_
  replace Fk2 := Fk2.gr G9
  refine V.storeO Fk2 rfl rfl rfl rfl sz30 rfl rfl rfl rfl ?_
  rintro w11 G12 z14 Fs13
  clear Fk2
  have z15 := V.Fr.size G12
  have Fk2 := Fs13; clear Fs13
  simp only [V.spliceL, V.cellsL] at Fk2
  refine V.ru 1 ?_
  refine V.nt ?_
  refine V.ret ?_
  refine V.tR ?_
  refine V.done2 rfl (V.resV_cell T_ok Fk2 rfl rfl) (V.resV_tmp rfl) ?_
  rw [ent_no h1, h1]
  replace HG := HG.grow (G4.trans G9)
  replace HG := HG.n1 G12
  exact ⟨none, 0, (by first | rfl | simp only [List.length_set]), V.Row.nil, HG⟩
 ·
  try replace h1 := V.dec h1
  try simp only [V.mk] at h1
  have hh := hasI.1 h1
  refine V.skip ?_
  refine V.tN ?_
  refine V.seq ?_
  refine V.drawT 13 mixed (by kernel_rfl) ?_
  rintro w16 G17 s18
  have z19 := V.Fr.size G17
  refine V.qrun T_ok 3 rfl ?_
  replace Fk := Fk.gr (G4.trans (G9.trans G17))
  refine V.qloadO T_ok Fk rfl rfl rfl rfl rfl ?_
  refine V.qrun T_ok 4 rfl ?_
  refine V.qloadO T_ok Fk rfl rfl rfl rfl rfl ?_
  refine V.qsubN rfl rfl rfl rfl rfl V.lenA V.lenA ?_
  refine V.qsubN rfl rfl rfl rfl rfl V.lenA V.lenA ?_
  replace Fo := Fo.gr (G4.trans (G9.trans G17))
  refine V.qelem T_ok Fo.slB rfl rfl sz30 rfl rfl rfl rfl V.lenA V.lenA ?_
  rintro b20 o21 cs22 hx23 hb24 hR30 hA25
  obtain ⟨x26, hx26⟩ : ∃ z', d.l[((i - d.base) - 1).toNat] = z' := ⟨_, rfl⟩
  rw [hx26] at hR30
  obtain ⟨_, _, rfl, rfl, ⟨a27, c28, rfl, F29⟩⟩ := hR30
  try simp only [Int.toNat_natCast] at hx26 hx23
  refine V.qloadA T_ok (o0 := o21) (off := 0) hA25 rfl rfl rfl rfl rfl ?_
  refine V.qnil ?_
  have hxl := hdl x26 (hx26 ▸ List.getElem_mem _)
  refine V.call (own_spec (t := x26.1) F29 V.lenA) rfl rfl rfl ?_
  rintro _ w34 ⟨a31, c32, rfl, F33, G35⟩
  have z36 := V.Fr.size G35
  replace Fk2 := Fk2.gr (G9.trans (G17.trans G35))
  refine V.storeO Fk2 rfl rfl rfl rfl sz30 rfl rfl rfl rfl ?_
  rintro w37 G38 z40 Fs39
  clear Fk2
  have z41 := V.Fr.size G38
  have Fk2 := Fs39; clear Fs39
  simp only [V.spliceL, V.cellsL] at Fk2
  refine V.ru 1 ?_
  refine V.nt ?_
  refine V.ret ?_
  refine V.done2 rfl (V.resV_cell T_ok Fk2 rfl rfl) (V.resV_tmp rfl) ?_
  rw [show entV d i = x26 from ent_at hh rfl (by omega) hx26, has_yes hh]
  replace F33 := F33.ma G38
  replace HG := HG.grow (G4.trans (G9.trans (G17.trans G35)))
  replace HG := HG.n1 G38
  exact ⟨a31, c32, (by first | rfl | simp only [List.length_set]), F33.re, HG⟩

set_option maxHeartbeats 900000 in
set_option maxRecDepth 10000 in
theorem from_spec {w : World} {k g : Nat} {B : Nat → Prop} {d : LogV} (FX : Lg w k g B d) {i : Int} {most : Int}  :
    Meets Try.prog 58 [.pointer (some ⟨k, 0, none⟩), .int .i64 i, .int .i64 most] w fun r w' => ∃ (ra7 : Option Addr) (rc7 : Nat), r = .slice ra7 (fromV d i most).length rc7 ∧ V.Row V.Cod.oent 30 w' V.None' w.heap.size w'.heap.size ra7 rc7 (fromV d i most) ∧ Gr w w' := by
 obtain ⟨ao, co, Fk, Fo⟩ := FX.ex
 have hok := FX.ok
 have hdl := FX.dl
 have hkl := Fk.lt
 have hgl := FX.gl
 have hBl := FX.bl
 have hnk := FX.nk
 have hng := FX.ng
 have hFo : ∀ j, (B j ∨ (j = g ∧ j ≠ k)) → j < w.heap.size := fun j h => h.elim (hBl j) (fun h => h.1 ▸ hgl)
 have hlm := Fo.slB.len63
 have HG := V.Fr.refl [] w
 refine V.enter (n := 35) Try.func58 rfl rfl (by decide) rfl ?_
 refine V.sr ?_
 refine V.ru 1 ?_
 refine V.nt ?_
 refine V.seq ?_
 refine V.sr ?_
 refine V.ru 2 ?_
 refine V.call (has_spec (i := i) FX) rfl rfl rfl ?_
 rintro _ w1 ⟨rfl, G2⟩
 have z3 := V.Fr.size G2
 refine V.ru 2 ?_
 refine V.orG T_ok 2 4 12 rfl rfl rfl rfl rfl rfl rfl rfl ?_
 refine V.nt ?_
 refine V.condT rfl (fun h1 => ?_) (fun h1 => ?_)
 ·
  try replace h1 := V.dec h1
  try simp only [V.mk] at h1
  have hno : fromV d i most = [] := by unfold fromV; rw [if_neg (by grind)]
  refine V.sr ?_
  refine V.ru 1 ?_
  refine V.nt ?_
  refine V.ret ?_
  refine V.tR ?_
  refine V.done rfl ?_
  rw [hno]
  replace HG := HG.grow G2
  exact ⟨none, 0, (by first | rfl | simp only [List.length_set]), V.Row.nil, HG⟩
 ·
  try replace h1 := V.dec h1
  try simp only [V.mk] at h1
  have hh := hasI.1 h1.1
  refine V.skip ?_
  refine V.tN ?_
  refine V.seq ?_
  refine V.drawQ mixed (by kernel_rfl) ?_
  refine V.qrun T_ok 3 rfl ?_
  replace Fk := Fk.gr G2
  refine V.qloadO T_ok Fk rfl rfl rfl rfl rfl ?_
  refine V.qrun T_ok 4 rfl ?_
  refine V.qloadO T_ok Fk rfl rfl rfl rfl rfl ?_
  refine V.qsubN rfl rfl rfl rfl rfl V.lenA V.lenA ?_
  refine V.qsubN rfl rfl rfl rfl rfl V.lenA V.lenA ?_
  replace Fo := Fo.gr G2
  refine V.qcutD T_ok Fo.slB rfl rfl sz30 rfl rfl rfl rfl V.lenA V.lenA (fun a4 c5 F6 => ?_)
  refine V.qrun T_ok 1 rfl ?_
  refine V.qnil ?_
  rintro w7 G8
  have z9 := V.Fr.size G8
  refine V.tN ?_
  refine V.sr ?_
  refine V.ru 5 ?_
  replace F6 := F6.gr G8
  refine V.cutL T_ok F6 rfl rfl sz30 rfl rfl rfl rfl V.lenA V.lenA (fun a10 F12 => ?_)
  refine V.call (owned_spec F12 (fun k hk => by have := hFo k hk; omega) V.lenA (by intro x hx; first | exact hdl x hx | exact hdl x (List.mem_of_mem_take hx) | exact hdl x (List.mem_of_mem_drop hx) | exact hdl x (List.mem_of_mem_drop (List.mem_of_mem_take hx)) | exact hde x (List.mem_of_mem_drop hx))) rfl rfl rfl ?_
  rintro _ w16 ⟨a13, c14, rfl, F15, G17⟩
  have z18 := V.Fr.size G17
  refine V.ru 1 ?_
  refine V.nt ?_
  refine V.ret ?_
  refine V.done rfl ?_
  rw [show fromV d i most = ((d.l.drop ((i - d.base) - 1).toNat).take (min most ((d.l.drop ((i - d.base) - 1).toNat).length : Int)).toNat) from (by unfold fromV; rw [if_pos h1]; first | rfl | exact take_min h1.2)]
  replace HG := HG.grow (G2.trans (G8.trans G17))
  exact ⟨a13, c14, (by first | rfl | simp only [List.length_set]), F15.re, HG⟩

set_option maxHeartbeats 900000 in
set_option maxRecDepth 10000 in
theorem compact_spec {w : World} {k g : Nat} {B : Nat → Prop} {d : LogV} (FX : Lg w k g B d) {i : Int}  :
    Meets Try.prog 48 [.pointer (some ⟨k, 0, none⟩), .int .i64 i] w fun r w' => ∃ (rg8 : Nat) (rB8 : Nat → Prop), r = .int .i64 (if isV d i = true then 0 else 151) ∧ Lg w' k rg8 rB8 (cmpV d i) ∧ (rg8 = g ∨ w.heap.size ≤ rg8) ∧ (∀ j, rB8 j → B j ∨ j = g ∨ w.heap.size ≤ j) ∧ Fr [k] w w' := by
 obtain ⟨ao, co, Fk, Fo⟩ := FX.ex
 have hok := FX.ok
 have hdl := FX.dl
 have hkl := Fk.lt
 have hgl := FX.gl
 have hBl := FX.bl
 have hnk := FX.nk
 have hng := FX.ng
 have hFo : ∀ j, (B j ∨ (j = g ∧ j ≠ k)) → j < w.heap.size := fun j h => h.elim (hBl j) (fun h => h.1 ▸ hgl)
 have hlm := Fo.slB.len63
 have HG := V.Fr.refl [k] w
 refine V.enter (n := 40) Try.func48 rfl rfl (by decide) rfl ?_
 refine V.sr ?_
 refine V.ru 1 ?_
 refine V.nt ?_
 refine V.seq ?_
 refine V.sr ?_
 refine V.ru 2 ?_
 refine V.nt ?_
 refine V.condN rfl rfl ?_
 refine V.skip ?_
 refine V.tN ?_
 refine V.sr ?_
 refine V.ru 2 ?_
 refine V.call (term_spec (i := i) FX) rfl rfl rfl ?_
 rintro _ w1 ⟨rfl, G2⟩
 have z3 := V.Fr.size G2
 refine V.ru 5 ?_
 refine V.nt ?_
 refine V.seq ?_
 refine V.sr ?_
 refine V.ru 2 ?_
 refine V.nt ?_
 refine V.condT rfl (fun h4 => ?_) (fun h4 => ?_)
 ·
  try replace h4 := V.dec h4
  try simp only [V.mk] at h4
  have hno : ¬ isV d i = true := by grind
  have hcv : cmpV d i = d := by unfold cmpV; rw [if_neg hno]
  refine V.sr ?_
  refine V.ru 1 ?_
  refine V.nt ?_
  refine V.ret ?_
  refine V.tR ?_
  rw [hcv, if_neg hno]
  replace FX := FX.gr G2
  have FX9 := FX
  have hg9 : g = g ∨ w.heap.size ≤ g := .inl rfl
  have hB9 : ∀ j, B j → B j ∨ j = g ∨ w.heap.size ≤ j := fun j h => .inl h
  refine V.done rfl ?_
  replace HG := HG.grow G2
  exact ⟨_, _, (by first | rfl | simp only [List.length_set]), FX9, hg9, hB9, HG⟩
 ·
  try replace h4 := V.dec h4
  try simp only [V.mk] at h4
  have hyes : isV d i = true := by grind
  have hcv : cmpV d i = ⟨i, trmV d i, d.l.drop (i - d.base).toNat⟩ := by unfold cmpV; rw [if_pos hyes]
  have hii := isI.1 hyes
  refine V.skip ?_
  refine V.tN ?_
  refine V.seq ?_
  refine V.drawGT 13 (V.sel [(12, (fun v wz => ∃ (ra4 : Option Addr) (rc4 : Nat), v = .slice ra4 (d.l.drop (i - d.base).toNat).length rc4 ∧ V.Row V.Cod.ent 30 wz ((fun k_ => B k_ ∨ (fun j => j = g ∧ j ≠ k) k_)) w1.heap.size wz.heap.size ra4 rc4 (d.l.drop (i - d.base).toNat)))]) mixed (by kernel_rfl) (V.mono_cons (by rintro v wz wz' g ⟨ra4, rc4, rfl, rF4⟩; exact ⟨ra4, rc4, rfl, (by first | exact (rF4.gr g).mono (V.In.sub (Nat.le_refl _) g.size) | exact rF4.gr g | exact (rF4.gr g).mono (fun _ h => h) (Nat.le_refl _) g.size | exact (rF4.gr g).mono (fun k h => ⟨h.1, Nat.lt_of_lt_of_le h.2 g.size⟩))⟩) V.mono_nil) ?_
  refine V.grun T_ok 4 rfl (V.sel_none rfl) ?_
  replace Fk := Fk.gr G2
  refine V.gloadO T_ok (fun w' h => Fk.gr h.1) rfl rfl rfl rfl rfl rfl ?_
  refine V.grun T_ok 4 rfl (V.sel_none rfl) ?_
  refine V.gloadO T_ok (fun w' h => Fk.gr h.1) rfl rfl rfl rfl rfl rfl ?_
  refine V.gsubM rfl rfl rfl rfl rfl V.lenA V.lenA ?_
  replace Fo := Fo.gr G2
  refine V.gcutD T_ok Fo.slB rfl rfl sz30 rfl rfl rfl rfl V.lenA V.lenA (fun a4 c5 F6 => ?_)
  refine V.gcall (fun w' h => (clone_ent (F6.gr h.1) (fun k hk => by have := Fr.size h.1; have := hFo k hk; omega) V.lenA).mono (by rintro v w'' ⟨ra4, rc4, rfl, rF4, G⟩; exact ⟨⟨ra4, rc4, rfl, (by first | exact rF4.mono (V.In.mono_l h.1.size) | exact rF4 | exact rF4.mono (fun _ h => h) h.1.size (Nat.le_refl _))⟩, G⟩)) rfl rfl rfl rfl ?_
  rintro _ w10 - - ⟨a7, c8, rfl, -⟩
  refine V.gnil ?_
  rintro w11 G12 hH13
  have z14 := V.Fr.size G12
  have F9 : V.Row V.Cod.ent 30 w11 ((fun k_ => B k_ ∨ (fun j => j = g ∧ j ≠ k) k_)) w1.heap.size w11.heap.size a7 c8 (d.l.drop (i - d.base).toNat) := by
    obtain ⟨_, _, he, F0⟩ := (V.Hist.here (hH13 12))
    cases he
    exact F0
  clear hH13
  refine V.ru 2 ?_
  replace Fk := Fk.gr G12
  refine V.storeO Fk rfl rfl rfl rfl sz22 rfl rfl rfl rfl ?_
  rintro w15 G16 z18 Fs17
  clear Fk
  have z19 := V.Fr.size G16
  have Fk := Fs17; clear Fs17
  simp only [V.spliceL, V.cellsL] at Fk
  refine V.nt ?_
  refine V.sr ?_
  refine V.ru 6 ?_
  refine V.storeO Fk rfl rfl rfl rfl sz3 rfl rfl rfl rfl ?_
  rintro w20 G21 z23 Fs22
  clear Fk
  have z24 := V.Fr.size G21
  have Fk := Fs22; clear Fs22
  simp only [V.spliceL, V.cellsL] at Fk
  refine V.ru 2 ?_
  refine V.storeO Fk rfl rfl rfl rfl sz3 rfl rfl rfl rfl ?_
  rintro w25 G26 z28 Fs27
  clear Fk
  have z29 := V.Fr.size G26
  have Fk := Fs27; clear Fs27
  simp only [V.spliceL, V.cellsL] at Fk
  refine V.nt ?_
  refine V.sr ?_
  refine V.ru 1 ?_
  refine V.nt ?_
  refine V.ret ?_
  rw [hcv, if_pos hyes]
  first | replace F9 := F9.ma G16 | replace F9 := V.Row.mv1b F9 G16 (by (try dsimp only [V.In]); constructor <;> first | omega | grind)
  first | replace F9 := F9.ma G21 | replace F9 := V.Row.mv1b F9 G21 (by (try dsimp only [V.In]); constructor <;> first | omega | grind)
  first | replace F9 := F9.ma G26 | replace F9 := V.Row.mv1b F9 G26 (by (try dsimp only [V.In]); constructor <;> first | omega | grind)
  obtain ⟨g9, B9, FX9, hg9, hB9⟩ := Lg.mk2 (d := ⟨i, trmV d i, (d.l.drop (i - d.base).toNat)⟩) (g := g) (B := B) (z := w.heap.size) Fk (V.RowE.ofRow F9) (by dsimp only; (try simp only [List.length_append, List.length_drop, List.length_take, List.length_cons, List.length_nil]); omega) (fun x h => hdl x (List.mem_of_mem_drop h)) (by intro j h; first | exact h.elim | exact (h.elim (fun h => h.elim) (fun h => h.elim)) | ((try dsimp only [V.In] at h ⊢); first | omega | grind)) (by intro j h; first | exact h.elim | exact (h.elim (fun h => h.elim) (fun h => h.elim)) | ((try dsimp only [V.In] at h ⊢); first | omega | grind)) (by intro j h; first | exact h.elim | exact (h.elim (fun h => h.elim) (fun h => h.elim)) | ((try dsimp only [V.In] at h ⊢); first | omega | grind)) (by omega) (by intro j h; first | exact h.elim | exact (h.elim (fun h => h.elim) (fun h => h.elim)) | ((try dsimp only [V.In] at h ⊢); first | omega | grind))
  refine V.done rfl ?_
  replace HG := HG.grow (G2.trans G12)
  replace HG := HG.n1 G16
  replace HG := HG.n1 G21
  replace HG := HG.n1 G26
  exact ⟨_, _, (by first | rfl | simp only [List.length_set]), FX9, hg9, hB9, HG⟩

set_option maxHeartbeats 900000 in
set_option maxRecDepth 10000 in
theorem new_spec {w : World}  {b : Int} {t : Int} (hbt : rstOk b t) :
    Meets Try.prog 7 [.int .i64 b, .int .i64 t] w fun r w' => ∃ (rk9 : Nat) (rg9 : Nat) (rB9 : Nat → Prop), r = .tuple #[.pointer (some ⟨rk9, 0, none⟩), .int .i64 0] ∧ (w.heap.size ≤ rk9 ∧ rk9 < w'.heap.size) ∧ Lg w' rk9 rg9 rB9 (⟨b, t, []⟩) ∧ w.heap.size ≤ rg9 ∧ (∀ j, rB9 j → w.heap.size ≤ j) ∧ Gr w w' := by
 have HG := V.Fr.refl [] w
 refine V.enter (n := 18) Try.func7 rfl rfl (by decide) rfl ?_
 refine V.sr ?_
 refine V.ru 2 ?_
 refine V.nt ?_
 refine V.sr ?_
 refine V.mkStruct T_ok zero93 rfl rfl rfl rfl rfl ?_
 refine V.box rfl rfl rfl rfl ?_
 rintro k1 w3 s5 s6 G4 Fk2
 have z7 := V.Fr.size G4
 try simp only [V.cellsL, V.spliceL] at Fk2
 refine V.ru 1 ?_
 refine V.nt ?_
 refine V.seq ?_
 refine V.seq ?_
 obtain ⟨g0, B0, FX0, hg0, hB0⟩ := Lg.mk2 (d := ⟨0, 0, []⟩) (g := k1) (B := V.None') (z := k1 + 1) Fk2 (V.RowE.nil (B := V.None') (E := V.None')) (by dsimp only; simp) (fun x h => by cases h) (fun j h => h.elim) (fun j h => h.elim) (fun j h => h.elim (fun h => h.elim) (fun h => h.elim)) (by omega) (fun j h => h.elim (fun h => h.elim) (fun h => h.elim))
 clear Fk2
 refine V.region ?_
 refine V.ru 3 ?_
 refine V.call (reset_spec (b := b) (t := t) FX0) rfl rfl rfl ?_
 rintro _ w13 ⟨g8, B9, rfl, F10, h11, h12, G14⟩
 have z15 := V.Fr.size G14
 refine V.ru 1 ?_
 refine V.nt ?_
 refine V.sr ?_
 refine V.ru 2 ?_
 refine V.nt ?_
 refine V.condN rfl (by (simp [hbt])) ?_
 refine V.skip ?_
 refine V.tN ?_
 refine V.sr ?_
 refine V.ru 3 ?_
 refine V.nt ?_
 refine V.ret ?_
 refine V.done rfl ?_
 rw [if_pos hbt] at *
 replace HG := HG.grow G4
 replace HG := HG.n1 G14
 exact ⟨k1, _, _, (by first | rfl | simp only [List.length_set]), ⟨by omega, by omega⟩, F10, (by omega), (by intro j h; grind), HG⟩

set_option maxHeartbeats 900000 in
set_option maxRecDepth 10000 in
theorem copy_spec {w : World} {k g : Nat} {B : Nat → Prop} {d : LogV} (FX : Lg w k g B d)   :
    Meets Try.prog 36 [.pointer (some ⟨k, 0, none⟩)] w fun r w' => ∃ (rk10 : Nat) (rg10 : Nat) (rB10 : Nat → Prop), r = .pointer (some ⟨rk10, 0, none⟩) ∧ (w.heap.size ≤ rk10 ∧ rk10 < w'.heap.size) ∧ Lg w' rk10 rg10 rB10 (d) ∧ w.heap.size ≤ rg10 ∧ (∀ j, rB10 j → B j ∨ (j = g ∧ j ≠ k) ∨ w.heap.size ≤ j) ∧ Gr w w' := by
 obtain ⟨ao, co, Fk, Fo⟩ := FX.ex
 have hok := FX.ok
 have hdl := FX.dl
 have hkl := Fk.lt
 have hgl := FX.gl
 have hBl := FX.bl
 have hnk := FX.nk
 have hng := FX.ng
 have hFo : ∀ j, (B j ∨ (j = g ∧ j ≠ k)) → j < w.heap.size := fun j h => h.elim (hBl j) (fun h => h.1 ▸ hgl)
 have hlm := Fo.slB.len63
 have HG := V.Fr.refl [] w
 refine V.enter (n := 20) Try.func36 rfl rfl (by decide) rfl ?_
 refine V.sr ?_
 refine V.ru 1 ?_
 refine V.nt ?_
 refine V.seq ?_
 refine V.sr ?_
 refine V.ru 2 ?_
 refine V.nt ?_
 refine V.condN rfl rfl ?_
 refine V.skip ?_
 refine V.tN ?_
 refine V.seq ?_
 refine V.drawGT 13 (V.sel [(12, (fun v wz => ∃ (ra4 : Option Addr) (rc4 : Nat), v = .slice ra4 d.l.length rc4 ∧ V.Row V.Cod.ent 30 wz ((fun k_ => B k_ ∨ (fun j => j = g ∧ j ≠ k) k_)) w.heap.size wz.heap.size ra4 rc4 d.l))]) mixed (by kernel_rfl) (V.mono_cons (by rintro v wz wz' g ⟨ra4, rc4, rfl, rF4⟩; exact ⟨ra4, rc4, rfl, (by first | exact (rF4.gr g).mono (V.In.sub (Nat.le_refl _) g.size) | exact rF4.gr g | exact (rF4.gr g).mono (fun _ h => h) (Nat.le_refl _) g.size | exact (rF4.gr g).mono (fun k h => ⟨h.1, Nat.lt_of_lt_of_le h.2 g.size⟩))⟩) V.mono_nil) ?_
 refine V.grun T_ok 3 rfl (V.sel_none rfl) ?_
 refine V.gloadO T_ok (fun w' h => Fk.gr h.1) rfl rfl rfl rfl rfl rfl ?_
 refine V.grun T_ok 3 rfl (V.sel_none rfl) ?_
 refine V.gloadO T_ok (fun w' h => Fk.gr h.1) rfl rfl rfl rfl rfl rfl ?_
 refine V.grun T_ok 3 rfl (V.sel_none rfl) ?_
 refine V.gloadO T_ok (fun w' h => Fk.gr h.1) rfl rfl rfl rfl rfl rfl ?_
 refine V.gcall (fun w' h => (clone_ent (Fo.slB.gr h.1) (by have := Fr.size h.1; intro k h; (try dsimp only [V.In] at h ⊢); first | omega | grind) V.lenA).mono (by rintro v w'' ⟨ra4, rc4, rfl, rF4, G⟩; exact ⟨⟨ra4, rc4, rfl, (by first | exact rF4.mono (V.In.mono_l h.1.size) | exact rF4 | exact rF4.mono (fun _ h => h) h.1.size (Nat.le_refl _))⟩, G⟩)) rfl rfl rfl rfl ?_
 rintro _ w4 - - ⟨a1, c2, rfl, -⟩
 refine V.gnil ?_
 rintro w5 G6 hH7
 have z8 := V.Fr.size G6
 have F3 : V.Row V.Cod.ent 30 w5 ((fun k_ => B k_ ∨ (fun j => j = g ∧ j ≠ k) k_)) w.heap.size w5.heap.size a1 c2 d.l := by
   obtain ⟨_, _, he, F0⟩ := (V.Hist.here (hH7 12))
   cases he
   exact F0
 clear hH7
 refine V.mkStruct T_ok zero93 rfl rfl rfl rfl rfl ?_
 refine V.box rfl rfl rfl rfl ?_
 rintro k9 w11 s13 s14 G12 Fk10
 have z15 := V.Fr.size G12
 try simp only [V.cellsL, V.spliceL] at Fk10
 refine V.ru 1 ?_
 refine V.nt ?_
 refine V.ret ?_
 replace F3 := F3.gr G12
 obtain ⟨g9, B9, FX9, hg9, hB9⟩ := Lg.mk2 (d := d) (g := k9) (B := fun j => B j ∨ (j = g ∧ j ≠ k)) (z := w.heap.size) Fk10 (V.RowE.ofRow F3) hok hdl (by intro j h; first | exact h.elim | exact (h.elim (fun h => h.elim) (fun h => h.elim)) | ((try dsimp only [V.In] at h ⊢); first | omega | grind)) (by intro j h; first | exact h.elim | exact (h.elim (fun h => h.elim) (fun h => h.elim)) | ((try dsimp only [V.In] at h ⊢); first | omega | grind)) (by intro j h; first | exact h.elim | exact (h.elim (fun h => h.elim) (fun h => h.elim)) | ((try dsimp only [V.In] at h ⊢); first | omega | grind)) (by omega) (by intro j h; first | exact h.elim | exact (h.elim (fun h => h.elim) (fun h => h.elim)) | ((try dsimp only [V.In] at h ⊢); first | omega | grind))
 refine V.done rfl ?_
 replace HG := HG.grow (G6.trans G12)
 exact ⟨k9, _, _, (by first | rfl | simp only [List.length_set]), ⟨by omega, by omega⟩, FX9, (by omega), (by intro j h; grind), HG⟩


section
open V
variable {P : Program} {n : Nat} {e : Env} {o : Oper} {T : Tab} {α : Type} {C : Cod α} {a : Option Addr} {xs : List α}
theorem V.cut3_run (hT : tabB P T = true) {t e' c : Nat} {x oh om : Operand} {k k' : IntKind} {j m : Int} (hc : xs.length ≤ c) (ho : o.op = .slice t x none (some oh) (some om)) (ht : V.look T t = some (.sl e')) (hs : sizeT P e' = some C.sz)
    (hx : evn n e x = some (.slice a xs.length c)) (hh : evn n e oh = some (.int k j)) (hm : evn n e om = some (.int k' m)) (h0 : 0 ≤ j) (h1 : j ≤ xs.length) (h2 : j ≤ m) (h3 : m ≤ c) (w : World) :
    (execOp (act n e).eval o).run P w = .ok (.value (.slice (addrCut a 0 m.toNat C.sz) (xs.take j.toNat).length m.toNat)) w := by
  simp only [execOp, ho, evn_eval hx, Option.map_some, evn_eval hh, evn_eval hm, Option.map_none]
  refine run_pure_value ?_
  have hlen : (xs.take j.toNat).length = j.toNat := by simp; omega
  have hb : (Instr.sliceBounds true xs.length c none (some (.int k j)) (some (.int k' m))).run P w = .ok (0, j.toNat, m.toNat) w := by
    simp [Instr.sliceBounds, run_sliceBound w k' m c _ (by omega) h3, run_sliceBound w k j m.toNat _ h0 (by omega)]
  simp [Instr.sliceAt, Instr.slice, run_underlying (look_sl hT ht), hb, run_sizeOf' hs, addrCut, hlen]
theorem V.cut3_sl {w : World} {D : Nat → Prop} {c : Nat} {j m : Int} (F : Sl C w D a c xs) (h0 : 0 ≤ j) (h1 : j ≤ xs.length) (h2 : j ≤ m) (h3 : m ≤ c) : Sl C w D (addrCut a 0 m.toNat C.sz) m.toNat (xs.take j.toNat) := by
  have hc := F.cap
  have F' := F.cut (l := 0) (h := j.toNat) (m := m.toNat) (by omega) (by omega) (by omega) (by omega)
  simpa using F'
end

set_option maxHeartbeats 900000 in
set_option maxRecDepth 10000 in
theorem append_spec {w : World} {k g : Nat} {B : Nat → Prop} {d : LogV} (FX : Lg w k g B d) {t : Int} {D_x : Nat → Prop} {c_x : Nat} {a_x : Option Addr} {x : List UInt8} (F_x : Sl V.Cod.byte w D_x a_x c_x x) (hD_x : ∀ k, D_x k → k < w.heap.size) (hs : d.l.length + 1 ≤ 1000000) :
    Meets Try.prog 8 [.pointer (some ⟨k, 0, none⟩), .agg #[.int .i64 t, .slice a_x x.length c_x]] w fun r w' => ∃ (rg11 : Nat) (rB11 : Nat → Prop), r = .tuple #[.int .i64 (appI d t x), .int .i64 (appE d t x)] ∧ Lg w' k rg11 rB11 (appV d t x) ∧ (rg11 = g ∨ w.heap.size ≤ rg11) ∧ (∀ j, rB11 j → B j ∨ j = g ∨ w.heap.size ≤ j) ∧ Fr [k, g] w w' := by
 obtain ⟨ao, co, Fk, Fo⟩ := FX.ex
 have hok := FX.ok
 have hdl := FX.dl
 have hkl := Fk.lt
 have hgl := FX.gl
 have hBl := FX.bl
 have hnk := FX.nk
 have hng := FX.ng
 have hFo : ∀ j, (B j ∨ (j = g ∧ j ≠ k)) → j < w.heap.size := fun j h => h.elim (hBl j) (fun h => h.1 ▸ hgl)
 have hlm := Fo.slB.len63
 have HG := V.Fr.refl [k, g] w
 refine V.enter (n := 47) Try.func8 rfl rfl (by decide) rfl ?_
 refine V.sr ?_
 refine V.box rfl rfl rfl rfl ?_
 rintro k1 w3 s5 s6 G4 Fk2
 have z7 := V.Fr.size G4
 try simp only [V.cellsL, V.spliceL] at Fk2
 refine V.ru 2 ?_
 refine V.nt ?_
 refine V.seq ?_
 refine V.sr ?_
 refine V.ru 2 ?_
 refine V.nt ?_
 refine V.condN rfl rfl ?_
 refine V.skip ?_
 refine V.tN ?_
 refine V.sr ?_
 refine V.ru 1 ?_
 replace FX := FX.gr G4
 refine V.call (last_spec FX) rfl rfl rfl ?_
 rintro _ w8 ⟨rfl, G9⟩
 have z10 := V.Fr.size G9
 refine V.ru 5 ?_
 refine V.nt ?_
 refine V.seq ?_
 refine V.sr ?_
 refine V.ru 1 ?_
 replace Fk2 := Fk2.gr G9
 refine V.loadO T_ok Fk2 rfl rfl rfl rfl rfl ?_
 refine V.ru 3 ?_
 refine V.split (j := 4) (t := 19) rfl rfl (fun g4_4 => ?_) (fun g4_4 => ?_)
 ·
  try replace g4_4 := V.dec g4_4
  try simp only [V.mk] at g4_4
  refine V.ru 14 ?_
  refine V.nt ?_
  refine V.condY rfl rfl ?_
  refine V.sr ?_
  refine V.ru 2 ?_
  refine V.nt ?_
  refine V.ret ?_
  refine V.tR ?_
  have hno : ¬ appOk d t x := by unfold appOk; grind
  rw [show appV d t x = d by unfold appV; rw [if_neg hno], show appI d t x = 0 by unfold appI; rw [if_neg hno], show appE d t x = 151 by unfold appE; rw [if_neg hno]]
  replace FX := FX.gr G9
  have FX9 := FX
  have hg9 : g = g ∨ w.heap.size ≤ g := .inl rfl
  have hB9 : ∀ j, B j → B j ∨ j = g ∨ w.heap.size ≤ j := fun j h => .inl h
  refine V.done rfl ?_
  replace HG := HG.grow (G4.trans G9)
  exact ⟨_, _, (by first | rfl | simp only [List.length_set]), FX9, hg9, hB9, HG⟩
 ·
  try replace g4_4 := V.dec g4_4
  try simp only [V.mk] at g4_4
  refine V.ru 1 ?_
  refine V.yes rfl rfl rfl ?_
  refine V.loadO T_ok Fk2 rfl rfl rfl rfl rfl ?_
  refine V.ru 3 ?_
  refine V.split (j := 9) (t := 24) rfl rfl (fun g4_9 => ?_) (fun g4_9 => ?_)
  ·
   try replace g4_9 := V.dec g4_9
   try simp only [V.mk] at g4_9
   refine V.ru 9 ?_
   refine V.nt ?_
   refine V.condY rfl rfl ?_
   refine V.sr ?_
   refine V.ru 2 ?_
   refine V.nt ?_
   refine V.ret ?_
   refine V.tR ?_
   have hno : ¬ appOk d t x := by unfold appOk; grind
   rw [show appV d t x = d by unfold appV; rw [if_neg hno], show appI d t x = 0 by unfold appI; rw [if_neg hno], show appE d t x = 151 by unfold appE; rw [if_neg hno]]
   replace FX := FX.gr G9
   have FX9 := FX
   have hg9 : g = g ∨ w.heap.size ≤ g := .inl rfl
   have hB9 : ∀ j, B j → B j ∨ j = g ∨ w.heap.size ≤ j := fun j h => .inl h
   refine V.done rfl ?_
   replace HG := HG.grow (G4.trans G9)
   exact ⟨_, _, (by first | rfl | simp only [List.length_set]), FX9, hg9, hB9, HG⟩
  ·
   try replace g4_9 := V.dec g4_9
   try simp only [V.mk] at g4_9
   refine V.ru 1 ?_
   refine V.yes rfl rfl rfl ?_
   refine V.loadO T_ok Fk2 rfl rfl rfl rfl rfl ?_
   refine V.ru 4 ?_
   refine V.orG T_ok 2 15 30 rfl rfl rfl rfl rfl rfl rfl rfl ?_
   refine V.nt ?_
   refine V.condT rfl (fun h4 => ?_) (fun h4 => ?_)
   ·
    try replace h4 := V.dec h4
    try simp only [V.mk] at h4
    refine V.sr ?_
    refine V.ru 2 ?_
    refine V.nt ?_
    refine V.ret ?_
    refine V.tR ?_
    have hno : ¬ appOk d t x := by unfold appOk; grind
    rw [show appV d t x = d by unfold appV; rw [if_neg hno], show appI d t x = 0 by unfold appI; rw [if_neg hno], show appE d t x = 151 by unfold appE; rw [if_neg hno]]
    replace FX := FX.gr G9
    have FX9 := FX
    have hg9 : g = g ∨ w.heap.size ≤ g := .inl rfl
    have hB9 : ∀ j, B j → B j ∨ j = g ∨ w.heap.size ≤ j := fun j h => .inl h
    refine V.done rfl ?_
    replace HG := HG.grow (G4.trans G9)
    exact ⟨_, _, (by first | rfl | simp only [List.length_set]), FX9, hg9, hB9, HG⟩
   ·
    try replace h4 := V.dec h4
    try simp only [V.mk] at h4
    have hyes : appOk d t x := by unfold appOk; grind
    have hyy := hyes
    unfold appOk at hyy
    have hli : lastI d = d.base + d.l.length := rfl
    have hdl2 : ∀ y ∈ d.l ++ [(t, x)], y.2.length ≤ 1000000 := by intro y hy; rcases List.mem_append.1 hy with h | h; exact hdl y h; rw [List.mem_singleton.1 h]; dsimp only; omega
    refine V.skip ?_
    refine V.tN ?_
    refine V.seq ?_
    replace Fk := Fk.gr (G4.trans G9)
    replace Fo := Fo.gr (G4.trans G9)
    replace FX := FX.gr G9
    replace F_x := F_x.gr (G4.trans G9)
    replace HG := HG.grow (G4.trans G9)
    refine V.drawMT 11 (fun w_ => V.FrE (fun j => j = g ∧ j ≠ k) w8 w_) (fun i => Nat.beq i 6 || Nat.beq i 7 || Nat.beq i 8) (fun _ g_ => V.FrE.ofGr g_) mixed (by kernel_rfl) (by kernel_rfl) ?_
    refine V.mrun T_ok 4 rfl rfl ?_
    refine V.mloadO T_ok (fun w' g_ => V.Cells.mvE Fk g_ (by (try dsimp only); first | omega | grind)) rfl rfl rfl rfl rfl rfl ?_
    refine V.mloadO T_ok (fun w' g_ => V.Cells.mvE Fk2 g_ (by (try dsimp only); first | omega | grind)) rfl rfl rfl rfl rfl rfl ?_
    refine V.mcall (R := fun w1_ v_ w2_ => ∃ (a_ : Option Addr) (c_ : Nat), v_ = .agg #[.int .i64 t, .slice a_ x.length c_] ∧ V.Row V.Cod.byte 5 w2_ V.None' w1_.heap.size w2_.heap.size a_ c_ x ∧ Gr w1_ w2_) rfl (fun w' g_ h_ => own_spec (t := t) (F_x.gr h_) (by omega)) (by rintro wa va wb ca _ ⟨a_, c_, rfl, F_, G_⟩; exact (ca.trans (V.FrE.ofGr (X := fun _ => False) G_)).mono (fun i h _ => h.elim id False.elim)) rfl rfl rfl ?_
    rintro _ _ _ _ _ ⟨a11, c12, rfl, -, -⟩
    refine V.mop (fun w1_ v_ w2_ => ∃ k_, v_ = .slice (some ⟨k_, 0, none⟩) 1 1 ∧ Gr w1_ w2_ ∧ Sl V.Cod.ent w2_ (V.In w8.heap.size w2_.heap.size) (some ⟨k_, 0, none⟩) 1 [(t, x)]) rfl rfl rfl rfl (fun w' g_ h_ => ?_) ?_
    ·
     obtain ⟨w1_, c1_, g0_, a_, c_, he_, F_, G_⟩ := h_
     cases he_
     have z0_ := V.Fr.size g0_
     have z1_ := V.Fr.size G_
     refine V.mkSlice T_ok zero30 rfl rfl sz30 rfl rfl rfl rfl rfl rfl ?_
     rintro k2_ w2_ s1_ s2_ G2_ Fk_
     have z2_ := V.Fr.size G2_
     refine V.nil ?_
     exact ⟨rfl, (g_.trans (V.FrE.ofGr (X := fun _ => False) G2_)).mono (fun i h _ => h.elim id False.elim), k2_, rfl, G2_, V.Cells.sl (xs := [(t, x)]) Fk_ (V.reps_cons (x := (t, x)) ⟨_, _, rfl, rfl, ⟨_, _, rfl, (F_.sl.gr G2_).mono (fun k h => ⟨by have := h.1; omega, by have := h.2; omega⟩)⟩⟩ rfl rfl) ⟨by omega, by omega⟩ (by simp [maxLen])⟩
    rintro _ _ _ _ _ ⟨k13, rfl, -, -⟩
    refine V.mop (fun w1_ v_ w2_ => ∃ a_ c_, v_ = .slice a_ (d.l ++ [(t, x)]).length c_ ∧ V.FrE (fun j => j = g ∧ j ≠ k) w1_ w2_ ∧ V.RowE V.Cod.ent 30 w2_ (fun j => B j ∨ V.In w8.heap.size w1_.heap.size j) (fun j => (fun j => j = g ∧ j ≠ k) j ∨ V.In w1_.heap.size w2_.heap.size j) a_ c_ (d.l ++ [(t, x)])) rfl rfl rfl rfl (fun w' g_ h_ => ?_) ?_
    ·
     obtain ⟨w2_, c2_, ⟨w1_, c1_, g0_, a_, c_, he_, F_, G_⟩, k2_, hk_, G2_, FS_⟩ := h_
     cases hk_
     have z0_ := V.Fr.size g0_
     have z1_ := V.Fr.size G_
     have z2_ := V.Fr.size G2_
     refine V.appendZ (((Fo.gr g0_).gr G_).gr G2_) (FS_.from Try.underlying22) elT22_22 rfl rfl rfl rfl rfl (by simp only [List.length_cons, List.length_nil]; omega) (by unfold maxLen; simp only [List.length_cons, List.length_nil]; omega) (by intro j h; (try dsimp only at h); omega) (by intro j h; have := hBl j h; refine ⟨by omega, fun h2 => ?_⟩; grind) (by intro j h; have h1 := h.1; have h2 := h.2; refine ⟨by omega, fun h2 => ?_⟩; (try dsimp only at h2); omega) ?_
     rintro a3_ c3_ w3_ G3_ z3_ F3_
     refine V.nil ?_
     exact ⟨rfl, (g_.trans G3_).mono (fun i h _ => h.elim id id), a3_, c3_, rfl, G3_, F3_⟩
    rintro _ _ _ _ _ ⟨a14, c15, rfl, -, -⟩
    refine V.mrun T_ok 2 rfl rfl ?_
    refine V.mnil ?_
    rintro w19 - ⟨w18, -, ⟨w17, -, ⟨w16, -, g0_, a1_, c1_, he_, F1_, G1_⟩, k2_, hk_, G2_, FS_⟩, a3_, c3_, hv_, G3_, F3_⟩
    cases he_; cases hk_; cases hv_
    clear F1_ FS_
    have z20 := V.Fr.size g0_
    have z21 := V.Fr.size G1_
    have z22 := V.Fr.size G2_
    clear Fo FX
    have z23 := V.FrE.size G3_
    replace Fk := Fk.gr (g0_.trans (G1_.trans G2_))
    replace Fk := Fk.mvE G3_ (by (try dsimp only [V.In]); first | omega | grind)
    refine V.storeO Fk rfl rfl rfl rfl sz22 rfl rfl rfl rfl ?_
    rintro w24 G25 z27 Fs26
    clear Fk
    have z28 := V.Fr.size G25
    have Fk := Fs26; clear Fs26
    simp only [V.spliceL, V.cellsL] at Fk
    refine V.nt ?_
    refine V.sr ?_
    refine V.ru 1 ?_
    refine V.addN rfl rfl rfl rfl rfl V.lenA V.lenA ?_
    refine V.ru 2 ?_
    refine V.nt ?_
    refine V.ret ?_
    rw [show appV d t x = ⟨d.base, d.term, d.l ++ [(t, x)]⟩ by unfold appV; rw [if_pos hyes], show appI d t x = lastI d + 1 by unfold appI; rw [if_pos hyes], show appE d t x = 0 by unfold appE; rw [if_pos hyes]]
    replace F3_ := F3_.mv1 G25 (by (try dsimp only [V.In]); first | omega | grind)
    obtain ⟨g9, B9, FX9, hg9, hB9⟩ := Lg.mk2 (d := ⟨d.base, d.term, d.l ++ [(t, x)]⟩) (g := g) (B := B) (z := w.heap.size) Fk F3_ (by dsimp only; (try simp only [List.length_append, List.length_drop, List.length_take, List.length_cons, List.length_nil]); omega) hdl2 (by intro j h; first | exact h.elim | exact (h.elim (fun h => h.elim) (fun h => h.elim)) | ((try dsimp only [V.In] at h ⊢); first | omega | grind)) (by intro j h; first | exact h.elim | exact (h.elim (fun h => h.elim) (fun h => h.elim)) | ((try dsimp only [V.In] at h ⊢); first | omega | grind)) (by intro j h; first | exact h.elim | exact (h.elim (fun h => h.elim) (fun h => h.elim)) | ((try dsimp only [V.In] at h ⊢); first | omega | grind)) (by omega) (by intro j h; first | exact h.elim | exact (h.elim (fun h => h.elim) (fun h => h.elim)) | ((try dsimp only [V.In] at h ⊢); first | omega | grind))
    refine V.done rfl ?_
    replace HG := HG.grow (g0_.trans (G1_.trans G2_))
    replace HG := HG.stepE G3_ (by intro i h; (try dsimp only [V.In] at h ⊢); first | omega | grind)
    replace HG := HG.n1 G25
    exact ⟨_, _, (by first | rfl | simp only [List.length_set]), FX9, hg9, hB9, HG⟩

set_option maxHeartbeats 900000 in
set_option maxRecDepth 10000 in
theorem lay_spec {w : World} {k g : Nat} {B : Nat → Prop} {d : LogV} (FX : Lg w k g B d) {prev : Int} {D_es : Nat → Prop} {c_es : Nat} {a_es : Option Addr} {es : List (Int × List UInt8)} (F_es : Sl V.Cod.ent w D_es a_es c_es es) (hD_es : ∀ k, D_es k → k < w.heap.size) (hp : d.base ≤ prev ∧ prev ≤ d.base + d.l.length) (hs : d.l.length + es.length ≤ 1000000) (hb : d.base + d.l.length + es.length ≤ 2199023255552) (hde : ∀ x ∈ es, x.2.length ≤ 1000000) :
    Meets Try.prog 64 [.pointer (some ⟨k, 0, none⟩), .int .i64 prev, .slice a_es es.length c_es] w fun r w' => ∃ (rg12 : Nat) (rB12 : Nat → Prop), r = .int .i64 (layI d prev es) ∧ Lg w' k rg12 rB12 (layV d prev es) ∧ (rg12 = g ∨ w.heap.size ≤ rg12) ∧ (∀ j, rB12 j → B j ∨ j = g ∨ w.heap.size ≤ j) ∧ Fr [k] w w' := by
 obtain ⟨ao, co, Fk, Fo⟩ := FX.ex
 have hok := FX.ok
 have hdl := FX.dl
 have hkl := Fk.lt
 have hgl := FX.gl
 have hBl := FX.bl
 have hnk := FX.nk
 have hng := FX.ng
 have hFo : ∀ j, (B j ∨ (j = g ∧ j ≠ k)) → j < w.heap.size := fun j h => h.elim (hBl j) (fun h => h.1 ▸ hgl)
 have hlm := Fo.slB.len63
 have HG := V.Fr.refl [k] w
 refine V.enter (n := 63) Try.func64 rfl rfl (by decide) rfl ?_
 refine V.sr ?_
 refine V.ru 1 ?_
 refine V.nt ?_
 refine V.seq ?_
 refine V.sr ?_
 refine V.ru 3 ?_
 refine V.nt ?_
 refine V.block ?_
 have hel := F_es.len63
 refine V.loopM (fun m e v2 => Fr [k] w v2 ∧ w.heap.size ≤ v2.heap.size ∧ Cells v2 k [.int .i64 d.base, .int .i64 d.term, .slice ao d.l.length co] 93 ∧ V.RowE V.Cod.ent 30 v2 B (fun j => j = g ∧ j ≠ k) ao co d.l ∧ Lg v2 k g B d ∧ Sl V.Cod.ent v2 D_es a_es c_es es ∧ ∃ (i : Nat) , m = es.length - i ∧ i ≤ es.length ∧ (∀ j, j < i → mat d prev es j = true) ∧ e 0 = .pointer (some ⟨k, 0, none⟩) ∧ e 1 = .int .i64 prev ∧ e 2 = .slice a_es es.length c_es ∧ e 12 = .slice a_es es.length c_es ∧ e 13 = .int .i64 (es.length : Int) ∧ e 14 = .int .i64 (i : Int)) ?_ ?_
 ·
  exact ⟨_, HG, (by omega), Fk, Fo, FX, F_es, (0), rfl, (Nat.zero_le _), (fun j hj => absurd hj (Nat.not_lt_zero _)), rfl, rfl, rfl, rfl, rfl, rfl⟩
 clear HG Fk Fo FX F_es
 rintro _ e v2 ⟨HG, z3, Fk, Fo, FX, F_es, i, rfl, hi, hm, he0_0, he0_1, he0_2, he0_12, he0_13, he0_14⟩
 have hin := mat_in hm hp.1 hp.2
 refine V.knownC (t := 0) he0_0 ?_
 refine V.knownC (t := 1) he0_1 ?_
 refine V.knownC (t := 2) he0_2 ?_
 refine V.knownC (t := 12) he0_12 ?_
 refine V.knownC (t := 13) he0_13 ?_
 refine V.knownC (t := 14) he0_14 ?_
 refine V.sr ?_
 refine V.ru 1 ?_
 refine V.nt ?_
 refine V.seq ?_
 refine V.condT rfl (fun h2 => ?_) (fun h2 => ?_)
 ·
  try replace h2 := V.dec h2
  try simp only [V.mk] at h2
  refine V.skip ?_
  refine V.tN ?_
  refine V.seq ?_
  refine V.block ?_
  refine V.sr ?_
  refine V.ru 1 ?_
  refine V.elem T_ok F_es rfl rfl sz30 rfl rfl rfl rfl V.lenA V.lenA ?_
  rintro b4 o5 cs6 hx7 hb8 hR14 hA9
  obtain ⟨x10, hx10⟩ : ∃ z', es[((i : Int)).toNat] = z' := ⟨_, rfl⟩
  rw [hx10] at hR14
  obtain ⟨_, _, rfl, rfl, ⟨a11, c12, rfl, F13⟩⟩ := hR14
  try simp only [Int.toNat_natCast] at hx10 hx7
  refine V.loadA T_ok (o0 := o5) (off := 0) hA9 rfl rfl rfl rfl rfl ?_
  refine V.alloc zero30 rfl rfl rfl ?_
  rintro k15 w17 s19 s20 G18 Fk16
  have z21 := V.Fr.size G18
  try simp only [V.cellsL, V.spliceL] at Fk16
  refine V.ru 1 ?_
  refine V.storeO Fk16 rfl rfl rfl rfl sz30 rfl rfl rfl rfl ?_
  rintro w22 G23 z25 Fs24
  clear Fk16
  have z26 := V.Fr.size G23
  have Fk16 := Fs24; clear Fs24
  simp only [V.spliceL, V.cellsL] at Fk16
  refine V.nt ?_
  refine V.seq ?_
  refine V.sr ?_
  refine V.ru 2 ?_
  refine V.addN rfl rfl rfl rfl rfl V.lenA V.lenA ?_
  refine V.ru 1 ?_
  refine V.addN rfl rfl rfl rfl rfl V.lenA V.lenA ?_
  replace FX := FX.gr G18
  replace FX := FX.mv1 G23 (by (try dsimp only [V.In]); first | omega | grind)
  refine V.call (term_spec (i := ((prev + 1) + (i : Int))) FX) rfl rfl rfl ?_
  rintro _ w27 ⟨rfl, G28⟩
  have z29 := V.Fr.size G28
  refine V.ru 5 ?_
  refine V.nt ?_
  refine V.sr ?_
  refine V.ru 2 ?_
  refine V.split (j := 1) (t := 29) rfl rfl (fun g5_1 => ?_) (fun g5_1 => ?_)
  ·
   try replace g5_1 := V.dec g5_1
   try simp only [V.mk] at g5_1
   refine V.ru 2 ?_
   refine V.yes rfl rfl rfl ?_
   replace Fk16 := Fk16.gr G28
   refine V.loadO T_ok Fk16 rfl rfl rfl rfl rfl ?_
   refine V.ru 2 ?_
   refine V.nt ?_
   refine V.condT rfl (fun h5 => ?_) (fun h5 => ?_)
   ·
    try replace h5 := V.dec h5
    try simp only [V.mk] at h5
    refine V.exit ?_
    refine V.tX ?_
    refine V.bE ?_
    refine V.tN ?_
    refine V.region ?_
    refine V.addN rfl rfl rfl rfl rfl V.lenA V.lenA ?_
    refine V.ru 1 ?_
    refine V.nt ?_
    have hmat : mat d prev es i = true := by rw [mat_eq (by omega) hx10]; grind
    replace Fk := Fk.gr G18
    replace Fk := Fk.ma G23
    replace Fk := Fk.gr G28
    replace Fo := Fo.gr G18
    replace Fo := Fo.mv1 G23 (by (try dsimp only [V.In]); first | omega | grind)
    replace Fo := Fo.gr G28
    replace FX := FX.gr G28
    replace F_es := F_es.gr G18
    replace F_es := F_es.mb G23 hD_es
    replace F_es := F_es.gr G28
    replace HG := HG.grow G18
    replace HG := HG.n1 G23
    replace HG := HG.grow G28
    exact ⟨_, (by omega), HG, (by omega), Fk, Fo, FX, F_es, (i + 1), rfl, (by omega), (fun j hj => by rcases Nat.lt_or_ge j i with h | h; exact hm j h; obtain rfl : j = i := (by omega); exact hmat), rfl, rfl, rfl, rfl, rfl, rfl⟩
   ·
    try replace h5 := V.dec h5
    try simp only [V.mk] at h5
    refine V.skip ?_
    refine V.tN ?_
    refine V.seq ?_
    have hmis : mat d prev es i = false := by rw [mat_eq (by omega) hx10]; grind
    have hla := lay_at (by omega) hm hmis
    refine V.region ?_
    refine V.ru 2 ?_
    refine V.addN rfl rfl rfl rfl rfl V.lenA V.lenA ?_
    refine V.ru 3 ?_
    replace Fk := Fk.gr G18
    replace Fk := Fk.ma G23
    replace Fk := Fk.gr G28
    refine V.loadO T_ok Fk rfl rfl rfl rfl rfl ?_
    refine V.subN rfl rfl rfl rfl rfl V.lenA V.lenA ?_
    refine V.ru 1 ?_
    refine V.nt ?_
    refine V.seq ?_
    replace Fo := Fo.gr G18
    replace Fo := Fo.mv1 G23 (by (try dsimp only [V.In]); first | omega | grind)
    replace Fo := Fo.gr G28
    replace FX := FX.gr G28
    replace F_es := F_es.gr G18
    replace F_es := F_es.mb G23 hD_es
    replace F_es := F_es.gr G28
    replace F13 := F13.gr G18
    replace F13 := F13.mb G23 hD_es
    replace F13 := F13.gr G28
    replace HG := HG.grow G18
    replace HG := HG.n1 G23
    replace HG := HG.grow G28
    have hcap := Fo.slB.cap
    refine V.drawMT 15 (fun w_ => Gr w27 w_) (fun i => Nat.beq i 11 || Nat.beq i 12) (fun _ g_ => g_) mixed (by kernel_rfl) (by kernel_rfl) ?_
    refine V.mrun T_ok 4 rfl rfl ?_
    refine V.mloadO T_ok (fun w' g_ => V.Cells.gr Fk g_) rfl rfl rfl rfl rfl rfl ?_
    refine V.mrun T_ok 2 rfl rfl ?_
    refine V.mstep rfl rfl rfl (fun w_ _ => V.cut3_run (C := V.Cod.ent) T_ok hcap rfl rfl sz30 rfl rfl rfl (by omega) (by omega) (by omega) (by omega) w_) ?_
    refine V.mrun T_ok 2 rfl rfl ?_
    refine V.mstep rfl rfl rfl (fun w_ g_ => V.cutD_run (C := V.Cod.ent) T_ok (F_es.gr g_) rfl rfl sz30 rfl rfl (by omega) (by omega)) ?_
    refine V.mcall (R := fun w1_ v_ w2_ => ∃ (a_ : Option Addr) (c_ : Nat), v_ = .slice a_ (es.drop ((i : Int)).toNat).length c_ ∧ V.Row V.Cod.oent 30 w2_ V.None' w1_.heap.size w2_.heap.size a_ c_ (es.drop ((i : Int)).toNat) ∧ Gr w1_ w2_) rfl (fun w' g_ h_ => owned_spec (V.cutD_sl (F_es.gr h_) (by omega) (by omega)) (fun j hj => by have := hD_es j hj; have := V.Fr.size h_; omega) (by rw [List.length_drop]; omega) (fun x hx => hde x (List.mem_of_mem_drop hx))) (by rintro wa va wb ca _ ⟨a_, c_, rfl, F_, G_⟩; exact ca.trans G_) rfl rfl rfl ?_
    rintro _ _ _ _ _ ⟨a30, c31, rfl, -, -⟩
    refine V.mop (fun w1_ v_ w2_ => ∃ a_ c_, v_ = .slice a_ (d.l.take ((prev + (i : Int)) - d.base).toNat ++ es.drop ((i : Int)).toNat).length c_ ∧ Gr w1_ w2_ ∧ V.RowE V.Cod.ent 30 w2_ (fun j => (B j ∨ (fun j => j = g ∧ j ≠ k) j) ∨ V.In w27.heap.size w1_.heap.size j) (V.In w1_.heap.size w2_.heap.size) a_ c_ (d.l.take ((prev + (i : Int)) - d.base).toNat ++ es.drop ((i : Int)).toNat)) rfl rfl rfl rfl (fun w' g_ h_ => ?_) ?_
    ·
     obtain ⟨w1_, c1_, g0_, a_, c_, he_, F_, G_⟩ := h_
     cases he_
     have z0_ := V.Fr.size g0_
     have z1_ := V.Fr.size G_
     have hl1_ : (d.l.take ((prev + (i : Int)) - d.base).toNat).length = ((prev + (i : Int)) - d.base).toNat := by rw [List.length_take]; omega
     have hl2_ : (es.drop ((i : Int)).toNat).length = es.length - i := by rw [List.length_drop]; omega
     refine V.appendG (D := (fun j => (B j ∨ (fun j => j = g ∧ j ≠ k) j) ∨ V.In w27.heap.size w'.heap.size j)) ((V.cut3_sl ((Fo.slB.gr g0_).gr G_) (by omega) (by omega) (by omega) (by omega)).mono (fun _ h => .inl h)) ((V.Sl.entOf (F_.sl.mono (D' := (fun j => (B j ∨ (fun j => j = g ∧ j ≠ k) j) ∨ V.In w27.heap.size w'.heap.size j)) (fun j h => .inr ⟨by have := h.1; omega, h.2⟩))).from Try.underlying22) elT22_22 rfl rfl rfl rfl rfl (by omega) (by omega) (by unfold maxLen; omega) ?_
     rintro a3_ c3_ w3_ G3_ z3_ F3_
     refine V.nil ?_
     exact ⟨rfl, g_.trans G3_, a3_, c3_, rfl, G3_, ⟨.inr ⟨_, _, ⟨Nat.le_refl _, by omega⟩, fun h => h.elim (fun h => h.elim (fun h => by have := hBl _ h; omega) (fun h => by have := h.1; omega)) (fun h => by have := h.2; omega), fun j h => .inl h, F3_⟩⟩⟩
    rintro _ _ _ _ _ ⟨a32, c33, rfl, -, -⟩
    refine V.mrun T_ok 2 rfl rfl ?_
    refine V.mnil ?_
    rintro w36 - ⟨w35, -, ⟨w34, -, g0_, a1_, c1_, he_, F1_, G1_⟩, a3_, c3_, hv_, G3_, F3_⟩
    cases he_; cases hv_
    clear F1_
    have z37 := V.Fr.size g0_
    have z38 := V.Fr.size G1_
    have z39 := V.Fr.size G3_
    replace Fk := Fk.gr (g0_.trans (G1_.trans G3_))
    refine V.storeO Fk rfl rfl rfl rfl sz22 rfl rfl rfl rfl ?_
    rintro w40 G41 z43 Fs42
    clear Fk
    have z44 := V.Fr.size G41
    have Fk := Fs42; clear Fs42
    simp only [V.spliceL, V.cellsL] at Fk
    refine V.nt ?_
    refine V.sr ?_
    refine V.ru 1 ?_
    refine V.addN rfl rfl rfl rfl rfl V.lenA V.lenA ?_
    refine V.ru 1 ?_
    refine V.addN rfl rfl rfl rfl rfl V.lenA V.lenA ?_
    refine V.ru 1 ?_
    refine V.nt ?_
    refine V.ret ?_
    refine V.bR ?_
    refine V.tR ?_
    refine V.tR ?_
    refine V.bR ?_
    refine V.tR ?_
    rw [hla.1, hla.2]
    have hti : ((i : Int)).toNat = i := Int.toNat_natCast i
    replace F3_ := F3_.mv1 G41 (by (try dsimp only [V.In]); first | omega | grind)
    obtain ⟨g9, B9, FX9, hg9, hB9⟩ := Lg.mk2 (d := ⟨d.base, d.term, d.l.take ((prev + (i : Int)) - d.base).toNat ++ es.drop ((i : Int)).toNat⟩) (g := g) (B := B) (z := w.heap.size) Fk F3_ (by dsimp only; (try simp only [List.length_append, List.length_drop, List.length_take, List.length_cons, List.length_nil]); omega) (fun x h => by rcases List.mem_append.1 h with h | h; exact hdl x (List.mem_of_mem_take h); exact hde x (List.mem_of_mem_drop h)) (by intro j h; first | exact h.elim | exact (h.elim (fun h => h.elim) (fun h => h.elim)) | ((try dsimp only [V.In] at h ⊢); first | omega | grind)) (by intro j h; first | exact h.elim | exact (h.elim (fun h => h.elim) (fun h => h.elim)) | ((try dsimp only [V.In] at h ⊢); first | omega | grind)) (by intro j h; first | exact h.elim | exact (h.elim (fun h => h.elim) (fun h => h.elim)) | ((try dsimp only [V.In] at h ⊢); first | omega | grind)) (by omega) (by intro j h; first | exact h.elim | exact (h.elim (fun h => h.elim) (fun h => h.elim)) | ((try dsimp only [V.In] at h ⊢); first | omega | grind))
    refine V.done rfl ?_
    replace HG := HG.grow (g0_.trans (G1_.trans G3_))
    replace HG := HG.n1 G41
    exact ⟨_, _, (by first | rfl | simp only [List.length_set]), FX9, hg9, hB9, HG⟩
  ·
   try replace g5_1 := V.dec g5_1
   try simp only [V.mk] at g5_1
   refine V.ru 5 ?_
   refine V.nt ?_
   refine V.condN rfl rfl ?_
   refine V.skip ?_
   refine V.tN ?_
   refine V.seq ?_
   have hmis : mat d prev es i = false := by rw [mat_eq (by omega) hx10]; grind
   have hla := lay_at (by omega) hm hmis
   refine V.region ?_
   refine V.ru 2 ?_
   refine V.addN rfl rfl rfl rfl rfl V.lenA V.lenA ?_
   refine V.ru 3 ?_
   replace Fk := Fk.gr G18
   replace Fk := Fk.ma G23
   replace Fk := Fk.gr G28
   refine V.loadO T_ok Fk rfl rfl rfl rfl rfl ?_
   refine V.subN rfl rfl rfl rfl rfl V.lenA V.lenA ?_
   refine V.ru 1 ?_
   refine V.nt ?_
   refine V.seq ?_
   replace Fo := Fo.gr G18
   replace Fo := Fo.mv1 G23 (by (try dsimp only [V.In]); first | omega | grind)
   replace Fo := Fo.gr G28
   replace FX := FX.gr G28
   replace F_es := F_es.gr G18
   replace F_es := F_es.mb G23 hD_es
   replace F_es := F_es.gr G28
   replace F13 := F13.gr G18
   replace F13 := F13.mb G23 hD_es
   replace F13 := F13.gr G28
   replace Fk16 := Fk16.gr G28
   replace HG := HG.grow G18
   replace HG := HG.n1 G23
   replace HG := HG.grow G28
   have hcap := Fo.slB.cap
   refine V.drawMT 15 (fun w_ => Gr w27 w_) (fun i => Nat.beq i 11 || Nat.beq i 12) (fun _ g_ => g_) mixed (by kernel_rfl) (by kernel_rfl) ?_
   refine V.mrun T_ok 4 rfl rfl ?_
   refine V.mloadO T_ok (fun w' g_ => V.Cells.gr Fk g_) rfl rfl rfl rfl rfl rfl ?_
   refine V.mrun T_ok 2 rfl rfl ?_
   refine V.mstep rfl rfl rfl (fun w_ _ => V.cut3_run (C := V.Cod.ent) T_ok hcap rfl rfl sz30 rfl rfl rfl (by omega) (by omega) (by omega) (by omega) w_) ?_
   refine V.mrun T_ok 2 rfl rfl ?_
   refine V.mstep rfl rfl rfl (fun w_ g_ => V.cutD_run (C := V.Cod.ent) T_ok (F_es.gr g_) rfl rfl sz30 rfl rfl (by omega) (by omega)) ?_
   refine V.mcall (R := fun w1_ v_ w2_ => ∃ (a_ : Option Addr) (c_ : Nat), v_ = .slice a_ (es.drop ((i : Int)).toNat).length c_ ∧ V.Row V.Cod.oent 30 w2_ V.None' w1_.heap.size w2_.heap.size a_ c_ (es.drop ((i : Int)).toNat) ∧ Gr w1_ w2_) rfl (fun w' g_ h_ => owned_spec (V.cutD_sl (F_es.gr h_) (by omega) (by omega)) (fun j hj => by have := hD_es j hj; have := V.Fr.size h_; omega) (by rw [List.length_drop]; omega) (fun x hx => hde x (List.mem_of_mem_drop hx))) (by rintro wa va wb ca _ ⟨a_, c_, rfl, F_, G_⟩; exact ca.trans G_) rfl rfl rfl ?_
   rintro _ _ _ _ _ ⟨a45, c46, rfl, -, -⟩
   refine V.mop (fun w1_ v_ w2_ => ∃ a_ c_, v_ = .slice a_ (d.l.take ((prev + (i : Int)) - d.base).toNat ++ es.drop ((i : Int)).toNat).length c_ ∧ Gr w1_ w2_ ∧ V.RowE V.Cod.ent 30 w2_ (fun j => (B j ∨ (fun j => j = g ∧ j ≠ k) j) ∨ V.In w27.heap.size w1_.heap.size j) (V.In w1_.heap.size w2_.heap.size) a_ c_ (d.l.take ((prev + (i : Int)) - d.base).toNat ++ es.drop ((i : Int)).toNat)) rfl rfl rfl rfl (fun w' g_ h_ => ?_) ?_
   ·
    obtain ⟨w1_, c1_, g0_, a_, c_, he_, F_, G_⟩ := h_
    cases he_
    have z0_ := V.Fr.size g0_
    have z1_ := V.Fr.size G_
    have hl1_ : (d.l.take ((prev + (i : Int)) - d.base).toNat).length = ((prev + (i : Int)) - d.base).toNat := by rw [List.length_take]; omega
    have hl2_ : (es.drop ((i : Int)).toNat).length = es.length - i := by rw [List.length_drop]; omega
    refine V.appendG (D := (fun j => (B j ∨ (fun j => j = g ∧ j ≠ k) j) ∨ V.In w27.heap.size w'.heap.size j)) ((V.cut3_sl ((Fo.slB.gr g0_).gr G_) (by omega) (by omega) (by omega) (by omega)).mono (fun _ h => .inl h)) ((V.Sl.entOf (F_.sl.mono (D' := (fun j => (B j ∨ (fun j => j = g ∧ j ≠ k) j) ∨ V.In w27.heap.size w'.heap.size j)) (fun j h => .inr ⟨by have := h.1; omega, h.2⟩))).from Try.underlying22) elT22_22 rfl rfl rfl rfl rfl (by omega) (by omega) (by unfold maxLen; omega) ?_
    rintro a3_ c3_ w3_ G3_ z3_ F3_
    refine V.nil ?_
    exact ⟨rfl, g_.trans G3_, a3_, c3_, rfl, G3_, ⟨.inr ⟨_, _, ⟨Nat.le_refl _, by omega⟩, fun h => h.elim (fun h => h.elim (fun h => by have := hBl _ h; omega) (fun h => by have := h.1; omega)) (fun h => by have := h.2; omega), fun j h => .inl h, F3_⟩⟩⟩
   rintro _ _ _ _ _ ⟨a47, c48, rfl, -, -⟩
   refine V.mrun T_ok 2 rfl rfl ?_
   refine V.mnil ?_
   rintro w51 - ⟨w50, -, ⟨w49, -, g0_, a1_, c1_, he_, F1_, G1_⟩, a3_, c3_, hv_, G3_, F3_⟩
   cases he_; cases hv_
   clear F1_
   have z52 := V.Fr.size g0_
   have z53 := V.Fr.size G1_
   have z54 := V.Fr.size G3_
   replace Fk := Fk.gr (g0_.trans (G1_.trans G3_))
   refine V.storeO Fk rfl rfl rfl rfl sz22 rfl rfl rfl rfl ?_
   rintro w55 G56 z58 Fs57
   clear Fk
   have z59 := V.Fr.size G56
   have Fk := Fs57; clear Fs57
   simp only [V.spliceL, V.cellsL] at Fk
   refine V.nt ?_
   refine V.sr ?_
   refine V.ru 1 ?_
   refine V.addN rfl rfl rfl rfl rfl V.lenA V.lenA ?_
   refine V.ru 1 ?_
   refine V.addN rfl rfl rfl rfl rfl V.lenA V.lenA ?_
   refine V.ru 1 ?_
   refine V.nt ?_
   refine V.ret ?_
   refine V.bR ?_
   refine V.tR ?_
   refine V.tR ?_
   refine V.bR ?_
   refine V.tR ?_
   rw [hla.1, hla.2]
   have hti : ((i : Int)).toNat = i := Int.toNat_natCast i
   replace F3_ := F3_.mv1 G56 (by (try dsimp only [V.In]); first | omega | grind)
   obtain ⟨g9, B9, FX9, hg9, hB9⟩ := Lg.mk2 (d := ⟨d.base, d.term, d.l.take ((prev + (i : Int)) - d.base).toNat ++ es.drop ((i : Int)).toNat⟩) (g := g) (B := B) (z := w.heap.size) Fk F3_ (by dsimp only; (try simp only [List.length_append, List.length_drop, List.length_take, List.length_cons, List.length_nil]); omega) (fun x h => by rcases List.mem_append.1 h with h | h; exact hdl x (List.mem_of_mem_take h); exact hde x (List.mem_of_mem_drop h)) (by intro j h; first | exact h.elim | exact (h.elim (fun h => h.elim) (fun h => h.elim)) | ((try dsimp only [V.In] at h ⊢); first | omega | grind)) (by intro j h; first | exact h.elim | exact (h.elim (fun h => h.elim) (fun h => h.elim)) | ((try dsimp only [V.In] at h ⊢); first | omega | grind)) (by intro j h; first | exact h.elim | exact (h.elim (fun h => h.elim) (fun h => h.elim)) | ((try dsimp only [V.In] at h ⊢); first | omega | grind)) (by omega) (by intro j h; first | exact h.elim | exact (h.elim (fun h => h.elim) (fun h => h.elim)) | ((try dsimp only [V.In] at h ⊢); first | omega | grind))
   refine V.done rfl ?_
   replace HG := HG.grow (g0_.trans (G1_.trans G3_))
   replace HG := HG.n1 G56
   exact ⟨_, _, (by first | rfl | simp only [List.length_set]), FX9, hg9, hB9, HG⟩
 ·
  try replace h2 := V.dec h2
  try simp only [V.mk] at h2
  refine V.exit ?_
  refine V.tX ?_
  refine V.tX ?_
  refine V.bE ?_
  refine V.tN ?_
  refine V.sr ?_
  refine V.ru 1 ?_
  refine V.nt ?_
  refine V.ret ?_
  have hln := lay_no (fun j hj => hm j (by omega))
  rw [hln.1, hln.2]
  have FX9 := FX
  have hg9 : g = g ∨ w.heap.size ≤ g := .inl rfl
  have hB9 : ∀ j, B j → B j ∨ j = g ∨ w.heap.size ≤ j := fun j h => .inl h
  refine V.done rfl ?_
  exact ⟨_, _, (by first | rfl | simp only [List.length_set]), FX9, hg9, hB9, HG⟩

set_option maxHeartbeats 900000 in
set_option maxRecDepth 10000 in
theorem splice_spec {w : World} {k g : Nat} {B : Nat → Prop} {d : LogV} (FX : Lg w k g B d) {prev : Int} {t : Int} {D_es : Nat → Prop} {c_es : Nat} {a_es : Option Addr} {es : List (Int × List UInt8)} (F_es : Sl V.Cod.ent w D_es a_es c_es es) (hD_es : ∀ k, D_es k → k < w.heap.size) (hs : d.l.length + es.length ≤ 1000000) (hb : d.base + d.l.length + es.length ≤ 2199023255552) (hde : ∀ x ∈ es, x.2.length ≤ 1000000) :
    Meets Try.prog 61 [.pointer (some ⟨k, 0, none⟩), .int .i64 prev, .int .i64 t, .slice a_es es.length c_es] w fun r w' => ∃ (rg13 : Nat) (rB13 : Nat → Prop), r = .tuple #[.bool (splOk d prev t), .int .i64 (splI d prev t es)] ∧ Lg w' k rg13 rB13 (splV d prev t es) ∧ (rg13 = g ∨ w.heap.size ≤ rg13) ∧ (∀ j, rB13 j → B j ∨ j = g ∨ w.heap.size ≤ j) ∧ Fr [k] w w' := by
 obtain ⟨ao, co, Fk, Fo⟩ := FX.ex
 have hok := FX.ok
 have hdl := FX.dl
 have hkl := Fk.lt
 have hgl := FX.gl
 have hBl := FX.bl
 have hnk := FX.nk
 have hng := FX.ng
 have hFo : ∀ j, (B j ∨ (j = g ∧ j ≠ k)) → j < w.heap.size := fun j h => h.elim (hBl j) (fun h => h.1 ▸ hgl)
 have hlm := Fo.slB.len63
 have HG := V.Fr.refl [k] w
 refine V.enter (n := 58) Try.func61 rfl rfl (by decide) rfl ?_
 refine V.sr ?_
 refine V.ru 2 ?_
 refine V.nt ?_
 refine V.seq ?_
 refine V.sr ?_
 refine V.ru 2 ?_
 refine V.nt ?_
 refine V.condN rfl rfl ?_
 refine V.skip ?_
 refine V.tN ?_
 refine V.seq ?_
 refine V.sr ?_
 refine V.ru 4 ?_
 refine V.loadO T_ok Fk rfl rfl rfl rfl rfl ?_
 refine V.ru 1 ?_
 refine V.nt ?_
 refine V.condT rfl (fun h3 => ?_) (fun h3 => ?_)
 ·
  try replace h3 := V.dec h3
  try simp only [V.mk] at h3
  refine V.sr ?_
  refine V.ru 3 ?_
  refine V.loadO T_ok Fk rfl rfl rfl rfl rfl ?_
  refine V.ru 2 ?_
  refine V.subN rfl rfl rfl rfl rfl V.lenA V.lenA ?_
  refine V.ru 1 ?_
  refine V.nt ?_
  refine V.seq ?_
  refine V.sr ?_
  refine V.ru 4 ?_
  refine V.nt ?_
  refine V.condT rfl (fun h5 => ?_) (fun h5 => ?_)
  ·
   try replace h5 := V.dec h5
   try simp only [V.mk] at h5
   refine V.sr ?_
   refine V.ru 2 ?_
   refine V.nt ?_
   refine V.ret ?_
   refine V.tR ?_
   refine V.tR ?_
   have FX9 := FX
   have hg9 : g = g ∨ w.heap.size ≤ g := .inl rfl
   have hB9 : ∀ j, B j → B j ∨ j = g ∨ w.heap.size ≤ j := fun j h => .inl h
   have hlt : prev < d.base := by omega
   have hle : (es.length : Int) ≤ aheadN d prev := by unfold aheadN; omega
   rw [show splV d prev t es = d by unfold splV; rw [if_pos hlt, if_pos hle], show splI d prev t es = 0 by unfold splI; rw [if_pos hlt, if_pos hle], show splOk d prev t = true by unfold splOk; simp [hlt]]
   refine V.done rfl ?_
   exact ⟨_, _, (by first | rfl | simp only [List.length_set]), FX9, (by first | exact hg9 | omega), (by first | exact hB9 | (intro j h; grind)), HG⟩
  ·
   try replace h5 := V.dec h5
   try simp only [V.mk] at h5
   refine V.skip ?_
   refine V.tN ?_
   refine V.seq ?_
   refine V.drawT 8 mixed (by kernel_rfl) ?_
   rintro w1 G2 s3
   have z4 := V.Fr.size G2
   refine V.qrun T_ok 4 rfl ?_
   replace Fk := Fk.gr G2
   refine V.qloadO T_ok Fk rfl rfl rfl rfl rfl ?_
   refine V.qrun T_ok 2 rfl ?_
   replace F_es := F_es.gr G2
   refine V.qcutD T_ok F_es rfl rfl sz30 rfl rfl rfl rfl V.lenA V.lenA (fun a5 c6 F7 => ?_)
   refine V.qnil ?_
   replace FX := FX.gr G2
   refine V.call (lay_spec (prev := d.base) FX F7 (fun k hk => by have := hD_es k hk; omega) (by omega) (by first | omega | (rw [List.length_drop]; omega)) (by first | omega | (rw [List.length_drop]; omega)) (fun x hx => by first | exact hde x hx | exact hde x (List.mem_of_mem_drop hx))) rfl rfl rfl ?_
   rintro _ w13 ⟨g8, B9, rfl, F10, h11, h12, G14⟩
   have z15 := V.Fr.size G14
   refine V.ru 2 ?_
   refine V.nt ?_
   refine V.ret ?_
   refine V.tR ?_
   refine V.done rfl ?_
   have hlt : prev < d.base := by omega
   have hle : ¬ (es.length : Int) ≤ aheadN d prev := by unfold aheadN; omega
   rw [show splV d prev t es = layV d d.base (es.drop (aheadN d prev).toNat) by unfold splV; rw [if_pos hlt, if_neg hle], show splI d prev t es = layI d d.base (es.drop (aheadN d prev).toNat) by unfold splI; rw [if_pos hlt, if_neg hle], show splOk d prev t = true by unfold splOk; simp [hlt]]
   replace HG := HG.grow G2
   replace HG := HG.n1 G14
   exact ⟨_, _, (by first | rfl | simp only [List.length_set]), F10, (by first | exact hg9 | omega), (by first | exact hB9 | (intro j h; grind)), HG⟩
 ·
  try replace h3 := V.dec h3
  try simp only [V.mk] at h3
  refine V.skip ?_
  refine V.tN ?_
  refine V.seq ?_
  refine V.sr ?_
  refine V.ru 2 ?_
  refine V.call (term_spec (i := prev) FX) rfl rfl rfl ?_
  rintro _ w16 ⟨rfl, G17⟩
  have z18 := V.Fr.size G17
  refine V.ru 5 ?_
  refine V.nt ?_
  refine V.sr ?_
  refine V.ru 3 ?_
  refine V.orG T_ok 3 2 49 rfl rfl rfl rfl rfl rfl rfl rfl ?_
  refine V.nt ?_
  refine V.condT rfl (fun h9 => ?_) (fun h9 => ?_)
  ·
   try replace h9 := V.dec h9
   try simp only [V.mk] at h9
   refine V.sr ?_
   refine V.ru 2 ?_
   refine V.nt ?_
   refine V.ret ?_
   refine V.tR ?_
   replace FX := FX.gr G17
   have FX9 := FX
   have hg9 : g = g ∨ w.heap.size ≤ g := .inl rfl
   have hB9 : ∀ j, B j → B j ∨ j = g ∨ w.heap.size ≤ j := fun j h => .inl h
   have hlt : ¬ prev < d.base := by omega
   have hso : splOk d prev t = false := by unfold splOk; simp [hlt]; grind
   rw [show splV d prev t es = d by unfold splV; rw [if_neg hlt, hso]; rfl, show splI d prev t es = 0 by unfold splI; rw [if_neg hlt, hso]; rfl, hso]
   refine V.done rfl ?_
   replace HG := HG.grow G17
   exact ⟨_, _, (by first | rfl | simp only [List.length_set]), FX9, (by first | exact hg9 | omega), (by first | exact hB9 | (intro j h; grind)), HG⟩
  ·
   try replace h9 := V.dec h9
   try simp only [V.mk] at h9
   have hpi : isV d prev = true := by grind
   have hpj := isI.1 hpi
   refine V.skip ?_
   refine V.tN ?_
   refine V.sr ?_
   refine V.ru 3 ?_
   replace FX := FX.gr G17
   replace F_es := F_es.gr G17
   refine V.call (lay_spec (prev := prev) FX F_es (fun k hk => by have := hD_es k hk; omega) (by omega) (by first | omega | (rw [List.length_drop]; omega)) (by first | omega | (rw [List.length_drop]; omega)) (fun x hx => by first | exact hde x hx | exact hde x (List.mem_of_mem_drop hx))) rfl rfl rfl ?_
   rintro _ w24 ⟨g19, B20, rfl, F21, h22, h23, G25⟩
   have z26 := V.Fr.size G25
   refine V.ru 2 ?_
   refine V.nt ?_
   refine V.ret ?_
   refine V.done rfl ?_
   have hlt : ¬ prev < d.base := by omega
   have hso : splOk d prev t = true := by unfold splOk; grind
   rw [show splV d prev t es = layV d prev es by unfold splV; rw [if_neg hlt, if_pos hso], show splI d prev t es = layI d prev es by unfold splI; rw [if_neg hlt, if_pos hso], hso]
   replace HG := HG.grow G17
   replace HG := HG.n1 G25
   exact ⟨_, _, (by first | rfl | simp only [List.length_set]), F21, (by first | exact hg9 | omega), (by first | exact hB9 | (intro j h; grind)), HG⟩

set_option maxHeartbeats 900000 in
set_option maxRecDepth 10000 in
theorem append_nil {w : World}  {t : Int} {D_x : Nat → Prop} {c_x : Nat} {a_x : Option Addr} {x : List UInt8} (F_x : Sl V.Cod.byte w D_x a_x c_x x)  :
    Meets Try.prog 8 [.pointer none, .agg #[.int .i64 t, .slice a_x x.length c_x]] w fun r w' => r = .tuple #[.int .i64 0, .int .i64 1] ∧ Gr w w' := by
 replace F_x := F_x.flb
 have HG := V.Fr.refl [] w
 refine V.enter (n := 47) Try.func8 rfl rfl (by decide) rfl ?_
 refine V.sr ?_
 refine V.box rfl rfl rfl rfl ?_
 rintro k1 w3 s5 s6 G4 Fk2
 have z7 := V.Fr.size G4
 try simp only [V.cellsL, V.spliceL] at Fk2
 refine V.ru 2 ?_
 refine V.nt ?_
 refine V.seq ?_
 refine V.sr ?_
 refine V.ru 2 ?_
 refine V.nt ?_
 refine V.condY rfl rfl ?_
 refine V.sr ?_
 refine V.ru 2 ?_
 refine V.nt ?_
 refine V.ret ?_
 refine V.tR ?_
 refine V.done rfl ?_
 replace HG := HG.grow G4
 exact ⟨(by first | rfl | simp only [List.length_set]), HG⟩

end Go.Proofs.Ytphohfpbdkgnaaa
