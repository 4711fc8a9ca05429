/- Proved here: more rules of the calculus: arrays in memory, and what else the later layers need. Conditions: each rule bears its own. -/
import Derived.SizedLaws
import Derived.Test.YtphohfpbdkgnaaaVV
import Derived.ProofKit
import Derived.OpenShut
import Derived.ShutString
import Derived.ChangeOld
import Derived.StillTail
import Derived.Lib.AppendZerosOnto
import Derived.Carry
import Derived.MapKept
import Derived.LoopN
import Derived.RangeFuncRecord
import Derived.OrdersIn
import Derived.TacticsIn
import Derived.Lib.SliceRun
namespace Go.Proofs.Ytphohfpbdkgnaaa.V
set_option linter.unusedVariables false
set_option linter.unusedSimpArgs false
open Go
/-! ### Arrays in memory -/
section
variable {P : Program} {n : Nat} {ops : Array Oper} {KC : World → Prop} {Q : Post} {e : Env} {w : World} {rest l : List Oper} {o : Oper} {d : Nat} {T : Tab} {Q' : Env → Prop}
theorem elemP_run (hT : tabB P T = true) {t N e' s b off : Nat} {ag : Bool} {x ix : Operand} {k : IntKind} {i : Int} (ho : o.op = .indexAddr t x ix) (ht : look T t = some (.arr N e' s ag))
    (hx : evn n e x = some (.pointer (some ⟨b, off, none⟩))) (hi' : evn n e ix = some (.int k i)) (h0 : 0 ≤ i) (h1 : i < N) (w : World) :
    (execOp (act n e).eval o).run P w = .ok (.value (.pointer (some ⟨b, off + i.toNat * s, none⟩))) w := by
  obtain ⟨hu, hs, _⟩ := look_arr hT ht
  simp only [execOp, ho, evn_eval hx, evn_eval hi']
  refine run_pure_value ?_
  simp [Instr.indexAt, asIntOf, run_underlying hu, h0, h1, run_sizeOf' hs, Addr.add_lit, Instr.sureAddr]
theorem elemP (hT : tabB P T = true) {t N e' s b off : Nat} {ag : Bool} {x ix : Operand} {k : IntKind} {i : Int} (ho : o.op = .indexAddr t x ix) (ht : look T t = some (.arr N e' s ag))
    (hx : evn n e x = some (.pointer (some ⟨b, off, none⟩))) (hi' : evn n e ix = some (.int k i)) (hg : o.guard = none) (hd : o.dst = some d) (h0 : 0 ≤ i) (h1 : i < N)
    (K : VL P n ops Q rest (e.set d (.pointer (some ⟨b, off + i.toNat * s, none⟩))) w) : VL P n ops Q (o :: rest) e w :=
  step hg hd (elemP_run hT ho ht hx hi' h0 h1 w) K
theorem qelemP (hT : tabB P T = true) {t N e' s b off : Nat} {ag : Bool} {x ix : Operand} {k : IntKind} {i : Int} (ho : o.op = .indexAddr t x ix) (ht : look T t = some (.arr N e' s ag))
    (hx : evn n e x = some (.pointer (some ⟨b, off, none⟩))) (hi' : evn n e ix = some (.int k i)) (hg : o.guard = none) (hd : o.dst = some d) (h0 : 0 ≤ i) (h1 : i < N)
    (K : VQ P n ops KC w Q' rest (e.set d (.pointer (some ⟨b, off + i.toNat * s, none⟩)))) : VQ P n ops KC w Q' (o :: rest) e :=
  qstep hg hd (fun w' _ => elemP_run hT ho ht hx hi' h0 h1 w') K
end
/-! ### A row's argument, opened -/
/-- What the row reads at type t is a value of C that is fine. -/
def Opens {H : Type} (enc : TypeId × Value → H) (P : Program) (W : World) {α : Type} (C : Cod α) (ok : α → Prop) (t : TypeId) : Prop :=
  ∀ fuel cs x, DataW.trod enc P W 0 (fun _ => true) true fuel t cs = some x → ∃ a, C.R W (fun k => k < W.heap.size) a cs ∧ ok a
section
variable {H : Type} {enc : TypeId × Value → H} {P : Program} {W : World} {t : TypeId}
theorem opens_byte (ht : P.underlying t = some (.int .u8)) : Opens enc P W Cod.byte (fun _ => True) t := by
  intro fuel cs x h
  obtain ⟨n, rfl, _, hw⟩ := DataW.trod_int ht h
  have hb : 0 ≤ n ∧ n ≤ 255 := by simpa [Lit.wf, IntKind.min, IntKind.max, IntKind.bits, IntKind.signed] using hw
  refine ⟨UInt8.ofNat n.toNat, ?_, trivial⟩
  have e : (((UInt8.ofNat n.toNat).toNat : Nat) : Int) = n := by simp; omega
  show [Value.int .u8 n] = [Value.int .u8 (((UInt8.ofNat n.toNat).toNat : Nat) : Int)]
  rw [e]
theorem opens_int {k : IntKind} (ht : P.underlying t = some (.int k)) : Opens enc P W (Cod.int k) (fun n => (Lit.int k n).wf = true) t := by
  intro fuel cs x h
  obtain ⟨n, rfl, _, hw⟩ := DataW.trod_int ht h
  exact ⟨n, rfl, hw⟩
theorem wf_i64 {n : Int} (h : (Lit.int .i64 n).wf = true) : -9223372036854775808 ≤ n ∧ n ≤ 9223372036854775807 := by
  simpa [Lit.wf, IntKind.min, IntKind.max, IntKind.bits, IntKind.signed] using h
theorem opens_i64 (ht : P.underlying t = some (.int .i64)) : Opens enc P W (Cod.int .i64) (fun n => -9223372036854775808 ≤ n ∧ n ≤ 9223372036854775807) t := fun f cs x h =>
  let ⟨a, h1, h2⟩ := opens_int ht f cs x h; ⟨a, h1, wf_i64 h2⟩
theorem opens_bool (ht : P.underlying t = some .bool) : Opens enc P W Cod.bool (fun _ => True) t := by
  intro fuel cs x h
  obtain ⟨b, rfl, _⟩ := DataW.trod_bool ht h
  exact ⟨b, rfl, trivial⟩
theorem opens_str (ht : P.underlying t = some .string) : Opens enc P W Cod.str (fun s => s.size ≤ maxLen) t := by
  intro fuel cs x h
  obtain ⟨s, rfl, _, hs⟩ := DataW.trod_string ht h
  exact ⟨s, rfl, hs⟩
theorem choose_list {α : Type} {n : Nat} {p : Nat → α → Prop} (h : ∀ i, i < n → ∃ a, p i a) : ∃ xs : List α, xs.length = n ∧ ∀ i (hi : i < xs.length), p i xs[i] := by
  refine ⟨List.ofFn fun i : Fin n => Classical.choose (h i.1 i.2), by simp, fun i hi => ?_⟩
  simp only [List.getElem_ofFn]
  exact Classical.choose_spec (h i (by simpa using hi))
theorem opens_sl {α : Type} {C : Cod α} {ok : α → Prop} {e : TypeId} (ht : P.underlying t = some (.slice e)) (hc : P.cellsOf e = C.sz) (hs : 0 < C.sz) (h : Opens enc P W C ok e) :
    Opens enc P W C.sl (fun xs => xs.length ≤ maxLen ∧ ∀ x ∈ xs, ok x) t := by
  intro fuel cs x hx
  rcases DataW.trod_slice ht hx with ⟨rfl, _⟩ | ⟨a, len, cap, elems, rest, n, _, rfl, _, _, hl, hm, hlen, hel, _, _⟩
  · exact ⟨[], ⟨none, 0, rfl, Sl.nil _ _ _ _ _ (Nat.zero_le _)⟩, Nat.zero_le _, by simp⟩
  · have hx : ∀ i, i < len → ∃ y : α, ok y ∧ ∃ cs, C.R W (fun k => k < W.heap.size) y cs ∧ (∀ j u, cs[j]? = some u → W.cell? ((a.add (i * C.sz)).add j) = some u) ∧ (a.add (i * C.sz)).block < W.heap.size ∧ ((a.add (i * C.sz)).add 0).spot = none := by
      intro i hi
      have h1 := hel i hi
      rw [hc] at h1
      obtain ⟨y, hy⟩ : ∃ y, elems[i]? = some y := ⟨elems[i], by rw [List.getElem?_eq_getElem (by omega)]⟩
      rw [hy] at h1
      cases hcs : W.cells? 0 (a.add (i * C.sz)) C.sz with
      | none => rw [hcs] at h1; simp at h1
      | some cs =>
        rw [hcs] at h1
        simp only [Option.bind_some] at h1
        obtain ⟨b, h2, h3⟩ := h n cs _ h1
        obtain ⟨_, h4, h5⟩ := World.cells?_some hcs
        refine ⟨b, h3, cs, h2, fun j u hu => ?_, World.cells?_block hcs hs, ?_⟩
        · rw [h5 j (by rw [← h4]; exact (List.getElem?_eq_some_iff.1 hu).1), hu]
        · have h6 := h5 0 hs
          rw [List.getElem?_eq_getElem (by omega)] at h6
          exact World.cell?_spot h6
    obtain ⟨xs, hxl, hxs⟩ := choose_list hx
    refine ⟨xs, ⟨some a, cap, by rw [hxl], ⟨by omega, hm, fun hn => ?_⟩⟩, by omega, fun y hy => ?_⟩
    · obtain ⟨_, cs0, _, _, hb, hsp⟩ := hxs 0 hn
      obtain ⟨b, o, sp⟩ := a
      have hsp2 : sp = none := by simpa [Addr.add] using hsp
      subst hsp2
      refine ⟨b, o, rfl, by simpa [Addr.add] using hb, fun i hi => ?_⟩
      obtain ⟨_, cs, h1, h2, _, _⟩ := hxs i hi
      refine ⟨cs, h1, fun j u hu => ?_⟩
      have := h2 j u hu
      simpa [Addr.add_lit] using this
    · obtain ⟨i, hi, rfl⟩ := List.getElem_of_mem hy
      exact (hxs i hi).1
/-- parts of a value, one behind the other -/
def OpensPs {H : Type} (enc : TypeId × Value → H) (P : Program) (W : World) {α : Type} (C : Cod α) (ok : α → Prop) (l : List (TypeId × Nat)) (off : Nat) : Prop :=
  ∀ (fuel : Nat) (cs : List Value), cs.length = off + C.sz → (∀ p ∈ l, ∃ y, DataW.trod enc P W 0 (fun _ => true) true fuel p.1 ((cs.drop p.2).take (P.cellsOf p.1)) = some y) → ∃ a, C.R W (fun k => k < W.heap.size) a (cs.drop off) ∧ ok a
theorem ops_one {α : Type} {C : Cod α} {ok : α → Prop} {f : TypeId} {off : Nat} (hc : P.cellsOf f = C.sz) (h : Opens enc P W C ok f) : OpensPs enc P W C ok [(f, off)] off := by
  intro fuel cs hl hp
  obtain ⟨y, hy⟩ := hp (f, off) (by simp)
  simp only at hy
  rw [List.take_of_length_le (by simp; omega)] at hy
  exact h _ _ _ hy
theorem ops_cons {α β : Type} {A : Cod α} {B : Cod β} {oka : α → Prop} {okb : β → Prop} {f : TypeId} {l : List (TypeId × Nat)} {off : Nat} (hc : P.cellsOf f = A.sz) (h : Opens enc P W A oka f) (hr : OpensPs enc P W B okb l (off + A.sz)) :
    OpensPs enc P W (Cod.pair A B) (fun x => oka x.1 ∧ okb x.2) ((f, off) :: l) off := by
  intro fuel cs hl hp
  obtain ⟨y, hy⟩ := hp (f, off) (by simp)
  simp only at hy
  obtain ⟨a, h1, h2⟩ := h _ _ _ hy
  obtain ⟨b, h3, h4⟩ := hr fuel cs (by simp only [Cod.pair] at hl; omega) (fun p hm => hp p (by simp [hm]))
  refine ⟨(a, b), ⟨_, _, ?_, h1, h3⟩, h2, h4⟩
  rw [hc, ← List.drop_drop]
  exact (List.take_append_drop _ _).symm
theorem opens_struct {α : Type} {C : Cod α} {ok : α → Prop} {fs : Array Field} (ht : P.underlying t = some (.struct fs)) (hc : P.cellsOf t = C.sz) (h : OpensPs enc P W C ok (fs.toList.map fun f => (f.type, f.offset)) 0) : Opens enc P W C ok t := by
  intro fuel cs x hx
  obtain ⟨xs, n, _, _, hl, hlen, hf⟩ := DataW.trod_struct ht hx
  have := h n cs (by omega) (fun p hp => by
    obtain ⟨f, hm, rfl⟩ := List.mem_map.1 hp
    obtain ⟨i, hi, rfl⟩ := List.getElem_of_mem hm
    have hi' : i < fs.size := by simpa using hi
    refine ⟨xs[i], ?_⟩
    have := hf i fs[i] (by simp [hi'])
    rw [List.getElem?_eq_getElem (by omega)] at this
    simpa using this)
  simpa using this
/-- the argument itself: cells -/
theorem Opens.cells {α : Type} {C : Cod α} {ok : α → Prop} {v : Value} {d : DataW H} {ps : List MemPlace} (h : Opens enc P W C ok t) (hd : DataW.Trod enc P W 0 (fun _ => true) true t v d ps) :
    ∃ a, C.R W (fun k => k < W.heap.size) a v.cells.toList ∧ ok a := let ⟨fuel, hf⟩ := hd; h fuel _ _ hf
theorem open_slc {α : Type} {C : Cod α} {ok : α → Prop} {e : TypeId} {r : Reach} {b : Nat} {v : Value} {d : DataW H} {ps : List MemPlace} (ht : P.underlying t = some (.slice e)) (hv : Value.okWide P W r b t v) (hc : P.cellsOf e = C.sz) (hs : 0 < C.sz) (h : Opens enc P W C ok e) (hd : DataW.Trod enc P W 0 (fun _ => true) true t v d ps) :
    ∃ a c xs, v = .slice a xs.length c ∧ Sl C W (fun k => k < W.heap.size) a c xs ∧ ∀ x ∈ xs, ok x := by
  obtain ⟨a0, l0, c0, rfl⟩ := Go.WideShapes.okWide_slice ht hv
  obtain ⟨xs, ⟨a, c, h1, h2⟩, h3⟩ := (opens_sl ht hc hs h).cells hd
  have : Value.slice a0 l0 c0 = Value.slice a xs.length c := by simpa [Value.cells] using h1
  exact ⟨a, c, xs, this, h2, h3.2⟩
end
/-! ### Structures of flat cells; a slice of one's own that grows -/
namespace Cod
def cells {α : Type} (n : Nat) (enc : α → List Value) (hl : ∀ x, (enc x).length = n) (h1 : ∀ x, ∀ u ∈ enc x, u.oneCell' = true) : Cod α where
  sz := n
  R := fun _ _ x cs => cs = enc x
  len := by rintro w D x cs rfl; exact hl x
  one := by rintro w D x cs rfl u hu; exact h1 x u hu
  mv := fun h _ _ => h
  mono := fun h _ => h
end Cod
section
variable {H : Type} {enc : TypeId × Value → H} {P : Program} {W : World} {t : TypeId}
theorem Opens.conv {α β : Type} {A : Cod α} {B : Cod β} {ok : α → Prop} {ok' : β → Prop} (h : Opens enc P W A ok t) (f : α → β) (hR : ∀ w D a cs, A.R w D a cs → B.R w D (f a) cs) (hok : ∀ a, ok a → ok' (f a)) : Opens enc P W B ok' t := fun fu cs x hx =>
  let ⟨a, h1, h2⟩ := h fu cs x hx; ⟨f a, hR _ _ _ _ h1, hok _ h2⟩
end
/-- A slice that is nothing, or in a row of its own from lo on that is not r. -/
structure Grw {α : Type} (C : Cod α) (t : Nat) (w : World) (r lo hi : Nat) (a : Option Addr) (c : Nat) (xs : List α) : Prop where
  ex : (a = none ∧ c = 0 ∧ xs = []) ∨ ∃ g, lo ≤ g ∧ g < hi ∧ g ≠ r ∧ Own C t w None' g a c xs
section
variable {α : Type} {C : Cod α} {t c r lo hi : Nat} {w w' : World} {a : Option Addr} {xs : List α}
theorem Grw.gr (h : Grw C t w r lo hi a c xs) (f : Gr w w') : Grw C t w' r lo hi a c xs := ⟨h.ex.imp id fun ⟨g, h1, h2, h3, h4⟩ => ⟨g, h1, h2, h3, h4.gr f⟩⟩
theorem Grw.mv1 {k : Nat} (h : Grw C t w r lo hi a c xs) (f : Fr [k] w w') (hk : k < lo) : Grw C t w' r lo hi a c xs := ⟨h.ex.imp id fun ⟨g, h1, h2, h3, h4⟩ => ⟨g, h1, h2, h3, h4.mv1 f ⟨by omega, fun h => h⟩⟩⟩
theorem Grw.nil : Grw C t w r lo hi none 0 [] := ⟨.inl ⟨rfl, rfl, rfl⟩⟩
theorem Grw.own (h : Grw C t w r lo hi a c xs) : ∃ g, Own C t w None' g a c xs ∧ (g = w.heap.size ∨ (lo ≤ g ∧ g < hi ∧ g ≠ r)) := by
  rcases h.ex with ⟨rfl, rfl, rfl⟩ | ⟨g, h1, h2, h3, h4⟩
  · exact ⟨_, Own.nil _ _ _ _ _, .inl rfl⟩
  · exact ⟨g, h4, .inr ⟨h1, h2, h3⟩⟩
theorem Grw.of {r' g : Nat} (h : Own C t w None' g a c xs) (h1 : lo ≤ g) (h2 : g < hi) (h3 : g ≠ r') : Grw C t w r' lo hi a c xs := ⟨.inr ⟨g, h1, h2, h3, h⟩⟩
end
section
variable {α : Type} {C : Cod α} {t c r lo hi : Nat} {w w' : World} {a : Option Addr} {xs : List α}
theorem Grw.sl (h : Grw C t w r lo hi a c xs) : Sl C w (fun k => k < hi) a c xs := by
  rcases h.ex with ⟨rfl, rfl, rfl⟩ | ⟨g, h1, h2, h3, h4⟩
  · exact Sl.nil _ _ _ _ _ (Nat.zero_le _)
  · exact h4.sl (fun _ h => h.elim) h2
end
/-! ### Writing into a row of one's own; make; copy -/
section
variable {α : Type} {C : Cod α} {w w' : World} {D D' : Nat → Prop}
theorem Reps.split : ∀ {xs ys : List α} {cs : List Value}, Reps C w D (xs ++ ys) cs → ∃ c1 c2, cs = c1 ++ c2 ∧ Reps C w D xs c1 ∧ Reps C w D ys c2
  | [], ys, cs, h => ⟨[], cs, rfl, rfl, h⟩
  | x :: xs, ys, cs, h => by
    obtain ⟨c1, c2, rfl, h1, h2⟩ := h
    obtain ⟨c3, c4, rfl, h3, h4⟩ := Reps.split (xs := xs) h2
    exact ⟨c1 ++ c3, c4, by simp, ⟨c1, c3, rfl, h1, h3⟩, h4⟩
theorem Own.put {t g c : Nat} {a : Option Addr} {xs ys : List α} {N : List Value} (hf : Flat C) (F : Own C t w D g a c xs) (oo : Nat) (hN : Reps C w D' ys N) (hle : oo + ys.length ≤ xs.length) (hpos : 0 < ys.length) :
    a = some ⟨g, 0, none⟩ ∧ ∃ cur, Cells w g cur t ∧ oo * C.sz + N.length ≤ cur.length ∧
      ∀ w', Cells w' g (cur.take (oo * C.sz) ++ N ++ cur.drop (oo * C.sz + N.length)) t → Own C t w' D g a c (xs.take oo ++ ys ++ xs.drop (oo + ys.length)) := by
  have hNl := hN.len
  rcases F.row with ⟨ha, hc⟩ | ⟨ha, cur, cs, h1, h2, h3, h4⟩
  · have := F.cap; omega
  refine ⟨ha, cur, h1, ?_, fun w' hw' => ?_⟩
  · have := F.cap
    rw [h2, hNl, ← Nat.add_mul]; exact Nat.mul_le_mul_right _ (by omega)
  have e1 : xs = xs.take oo ++ ((xs.drop oo).take ys.length ++ xs.drop (oo + ys.length)) := by
    rw [← List.drop_drop, List.take_append_drop, List.take_append_drop]
  rw [e1] at h4
  obtain ⟨c1, c2, e2, h5, h6⟩ := Reps.split h4
  obtain ⟨c3, c4, rfl, h7, h8⟩ := Reps.split h6
  have l1 := h5.len
  have l3 := h7.len
  rw [List.length_take, Nat.min_eq_left (by omega)] at l1
  rw [List.length_take, List.length_drop, Nat.min_eq_left (by omega)] at l3
  obtain ⟨tl, e3⟩ : ∃ tl, cur = (c1 ++ (c3 ++ c4)) ++ tl := ⟨cur.drop (xs.length * C.sz), by rw [← e2, ← h3, List.take_append_drop]⟩
  have hlen : (xs.take oo ++ ys ++ xs.drop (oo + ys.length)).length = xs.length := by simp; omega
  refine ⟨by rw [hlen]; exact F.cap, F.max, .inr ⟨ha, _, c1 ++ N ++ c4, hw', ?_, ?_, ?_⟩⟩
  · rw [List.length_append, List.length_append, List.length_take, List.length_drop, Nat.min_eq_left (by rw [e3]; simp; omega), h2]
    have := congrArg List.length e3
    rw [h2] at this
    simp only [List.length_append] at this
    omega
  · rw [hlen, e3]
    have l4 := h8.len
    rw [List.length_drop] at l4
    have h9 : oo * C.sz + ys.length * C.sz + (xs.length - (oo + ys.length)) * C.sz = xs.length * C.sz := by
      rw [← Nat.add_mul, ← Nat.add_mul]; congr 1; omega
    have e4 : (c1 ++ (c3 ++ c4) ++ tl).take (oo * C.sz) = c1 := by
      rw [List.append_assoc, List.take_append_of_le_length (by omega), List.take_of_length_le (by omega)]
    have e5 : (c1 ++ (c3 ++ c4) ++ tl).drop (oo * C.sz + N.length) = c4 ++ tl := by
      rw [show c1 ++ (c3 ++ c4) ++ tl = (c1 ++ c3) ++ (c4 ++ tl) by simp, List.drop_append_of_le_length (by simp; omega), List.drop_of_length_le (by simp; omega)]; rfl
    rw [e4, e5, ← List.append_assoc, List.take_append_of_le_length (by simp; omega), List.take_of_length_le (by simp; omega)]
  · exact Reps.append (Reps.append (Reps.flat hf h5) (Reps.flat hf hN)) (Reps.flat hf h8)
end
section
variable {P : Program} {n : Nat} {ops : Array Oper} {Q : Post} {e : Env} {w : World} {rest l : List Oper} {o : Oper} {d : Nat} {T : Tab} {α : Type} {C : Cod α}
end
/-! ### Drawn regions with a tail that stands in order -/
section
variable {P : Program} {n : Nat} {ops : Array Oper} {w : World} {e : Env}
theorem still_of_quiet {Q : Act → Prop} : ∀ (l : List Oper) (a : Act), wpQuiet P ops (fun w' => w' = w) Q l a → wpStill P ops w Q l a
  | [], _, h => h
  | o :: l, a, h => by
    unfold wpQuiet at h
    unfold wpStill
    split
    · rename_i hw
      rw [if_pos hw] at h
      obtain ⟨v, h1, h2⟩ := h
      have h3 := h1 w rfl
      unfold Oper.quietAt at h3
      unfold Oper.still
      cases hr : (execOp a.eval o).run P w with
      | ok x w' =>
        rw [hr] at h3
        cases x with
        | value u => obtain ⟨h4, h5⟩ := h3; exact ⟨h4, by rw [h5]; exact still_of_quiet l _ h2⟩
        | skip => obtain ⟨h4, h5⟩ := h3; exact ⟨h4, by rw [← h5]; exact still_of_quiet l _ h2⟩
        | enter f args => obtain ⟨h4, h5⟩ := h3; exact ⟨h4, v, h5, still_of_quiet l _ h2⟩
        | _ => exact h3.elim
      | _ => rw [hr] at h3; exact h3.elim
    · rename_i hw
      rw [if_neg hw] at h
      exact still_of_quiet l _ h
/-- the first N operations only compute, in whatever order; the others stand in their order -/
theorem drawT {id : Nat} {l : List Oper} {Q : Post} (N : Nat) (hm : P.follows .mixedOrders = true) (hB : Region.lexTailB .any l.toArray N = true)
    (h : ∀ w1, Gr w w1 → w1.heap.size = w.heap.size → VQ P n l.toArray (fun w' => w' = w1) w1 (fun e' => VL P n l.toArray Q (l.drop N) e' w1) (l.take N) e) : VC P n (.region id l.toArray true) Q e w := by
  unfold VC
  refine wp_region_still_tail N hm hB (still_of_quiet _ _ ?_)
  have h1 := h w.drew (gr_drew w) rfl
  unfold VQ at h1
  have h2 := h1 (fun w' hw => by subst hw; exact Fr.refl _ _)
  have mono : ∀ (l' : List Oper) (a : Act), wpQuiet P l.toArray (fun w' => w' = w.drew) (fun a => ∃ e', a = act n e' ∧ VL P n l.toArray Q (l.drop N) e' w.drew) l' a → wpQuiet P l.toArray (fun w' => w' = w.drew) (fun a' => wpList P l.toArray (lift n Q) (l.drop N) a' w.drew) l' a := by
    intro l'
    induction l' with
    | nil => rintro a ⟨e', h3, h4⟩; subst h3; unfold VL at h4; exact h4
    | cons o l' ih =>
      intro a h
      unfold wpQuiet at h ⊢
      split
      · rename_i hw; rw [if_pos hw] at h; exact Oper.quiet_mono (fun a h => ih a h) h
      · rename_i hw; rw [if_neg hw] at h; exact ih _ h
  exact mono _ _ h2
end
section
variable {α : Type} {C : Cod α} {w : World} {D : Nat → Prop}
theorem Own.win {t g c : Nat} {a : Option Addr} {xs : List α} (F : Own C t w D g a c xs) : xs.length = 0 ∨ a = some ⟨g, 0, none⟩ := by
  rcases F.row with ⟨_, hc⟩ | ⟨ha, _⟩
  · have := F.cap; exact .inl (by omega)
  · exact .inr ha
end
section
variable {P : Program} {n : Nat} {ops : Array Oper} {Q : Post} {e : Env} {w : World} {rest l : List Oper} {o : Oper} {d : Nat} {T : Tab} {α : Type} {C : Cod α} {KC : World → Prop} {Q' : Env → Prop}
end
/-! ### Drawn regions with calls that make new memory: each such operation has a property of its own ('S'), that stays; one walk in the order of the text serves every order -/
section
variable {P : Program} {ops : Array Oper} {md : Region.Mode} {w0 : World} {S : Nat → Option (Value → World → Prop)} {Q : Act → World → Prop}
/-- j waits for i, through others or not -/
def depB (md : Region.Mode) (ops : Array Oper) : Nat → Nat → Nat → Bool
  | 0, _, _ => false
  | f + 1, j, i => match ops.toList[j]? with
    | some o => o.after.toList.any fun e => Region.binds md e && (Nat.beq e.on i || depB md ops f e.on i)
    | none => false
def Hist := Nat → World → Prop
def Hist.add (H : Hist) (i : Nat) (p : World → Prop) : Hist := fun k w => H k w ∧ (k = i → p w)
theorem Hist.comm (H : Hist) (i j : Nat) (p q : World → Prop) : (H.add i p).add j q = (H.add j q).add i p := by
  funext k w
  exact propext ⟨fun h => ⟨⟨h.1.1, h.2⟩, h.1.2⟩, fun h => ⟨⟨h.1.1, h.2⟩, h.1.2⟩⟩
def KQ (md : Region.Mode) (ops : Array Oper) (w0 : World) (H : Hist) (j : Nat) (w : World) : Prop := Gr w0 w ∧ ∀ i, depB md ops ops.size j i = true → H i w
def Inh (w0 : World) (H : Hist) : Prop := ∃ w, Gr w0 w ∧ ∀ i, H i w
/-- only computes -/
def still1 (P : Program) (o : Oper) (a : Act) (w : World) (v : Value) : Prop := (execOp a.eval o).run P w = .ok (.value v) w ∨ ((execOp a.eval o).run P w = .ok .skip w ∧ v = undef)
/-- hands back something of which p holds, and makes new memory at most -/
def grows1 (P : Program) (o : Oper) (a : Act) (w : World) (p : Value → World → Prop) : Prop :=
  (∃ v w', (execOp a.eval o).run P w = .ok (.value v) w' ∧ Gr w w' ∧ p v w') ∨
  ∃ f args, (execOp a.eval o).run P w = .ok (.enter f args) w ∧ Calls P f args w fun e w' => ∃ v, e = .returned v ∧ Gr w w' ∧ p v w'
def gOp (P : Program) (md : Region.Mode) (ops : Array Oper) (w0 : World) (S : Nat → Option (Value → World → Prop)) (i : Nat) (K : Hist → Act → Prop) (H : Hist) (a : Act) : Prop :=
  match ops[i]? with
  | none => K H a
  | some o => if Region.wanted o (yielded ops a.tmps) then
      (match S i with
       | none => ∃ v, (∀ w, KQ md ops w0 H i w → still1 P o a w v) ∧ K H (a.put o.dst v)
       | some p => (∀ w, KQ md ops w0 H i w → grows1 P o a w p) ∧ ∀ v, K (H.add i (p v)) (a.put o.dst v))
    else K H (a.put o.dst undef)
def wpAnyG (P : Program) (md : Region.Mode) (ops : Array Oper) (w0 : World) (S : Nat → Option (Value → World → Prop)) (N : Nat) (E : Array Bool → Prop) (Q : Act → World → Prop) : Nat → Array Bool → Hist → Act → Prop
  | 0, listed, H, a => Inh w0 H → E listed ∧ ∀ w, Gr w0 w → (∀ i, H i w) → Q a w
  | f + 1, listed, H, a => Inh w0 H → Region.ready md ops listed ≠ [] ∧
    ∀ i ∈ Region.ready md ops listed, i < N ∧ gOp P md ops w0 S i (wpAnyG P md ops w0 S N E Q f (listed.setIfInBounds i true)) H a
def Mono (S : Nat → Option (Value → World → Prop)) : Prop := ∀ i p, S i = some p → ∀ v w w', Gr w w' → p v w → p v w'
def HMono (H : Hist) : Prop := ∀ i w w', Gr w w' → H i w → H i w'
theorem HMono.add {H : Hist} {i : Nat} {p : World → Prop} (h : HMono H) (hp : ∀ w w', Gr w w' → p w → p w') : HMono (H.add i p) := by
  intro k w w' g h1
  exact ⟨h k w w' g h1.1, fun e => hp w w' g (h1.2 e)⟩
/-- what is listed has what it waits for listed -/
def Closed (md : Region.Mode) (ops : Array Oper) (listed : Array Bool) : Prop := ∀ j oj, ops[j]? = some oj → listed.getD j false = true → ∀ e ∈ oj.after, Region.binds md e = true → listed.getD e.on false = true
theorem Closed.set {i : Nat} {listed : Array Bool} (h : Closed md ops listed) (hi : i ∈ Region.ready md ops listed) : Closed md ops (listed.setIfInBounds i true) := by
  obtain ⟨_, oi, hoi, hall⟩ := mem_ready.1 hi
  intro j oj hj hl e he hb
  by_cases hij : i = j
  · subst hij
    have : oj = oi := Option.some.inj (hj.symm.trans hoi)
    subst this
    exact getD_set_true (hall e he hb)
  · rw [getD_set_ne false hij] at hl
    exact getD_set_true (h j oj hj hl e he hb)
theorem dep_listed {listed : Array Bool} (hc : Closed md ops listed) : ∀ (f j i : Nat), depB md ops f j i = true → (listed.getD j false = true ∨ j ∈ Region.ready md ops listed) → listed.getD i false = true
  | 0, _, _, h, _ => by cases h
  | f + 1, j, i, h, hj => by
    unfold depB at h
    cases ho : ops.toList[j]? with
    | none => rw [ho] at h; cases h
    | some o =>
      rw [ho] at h
      have ho' : ops[j]? = some o := by simpa using ho
      obtain ⟨e, he, h2⟩ := List.any_eq_true.1 h
      simp only [Bool.and_eq_true, Bool.or_eq_true] at h2
      have hon : listed.getD e.on false = true := by
        rcases hj with hj | hj
        · exact hc j o ho' hj e (by simpa using he) h2.1
        · obtain ⟨_, o2, ho2, hall⟩ := mem_ready.1 hj
          have : o2 = o := Option.some.inj (ho2.symm.trans ho')
          subst this
          exact hall e (by simpa using he) h2.1
      rcases h2.2 with h3 | h3
      · rw [← Nat.eq_of_beq_eq_true h3]; exact hon
      · exact dep_listed hc f e.on i h3 (.inl hon)
theorem KQ_add {H : Hist} {listed : Array Bool} {i j : Nat} {p : World → Prop} (hc : Closed md ops listed) (hj : j ∈ Region.ready md ops listed) (hi : listed.getD i true = false) (w : World) : KQ md ops w0 (H.add i p) j w ↔ KQ md ops w0 H j w := by
  have hni : ∀ k, depB md ops ops.size j k = true → k ≠ i := by
    rintro k hk rfl
    have := dep_listed hc _ _ _ hk (.inr hj)
    rw [getD_both hi] at this
    cases this
  exact ⟨fun h => ⟨h.1, fun k hk => (h.2 k hk).1⟩, fun h => ⟨h.1, fun k hk => ⟨h.2 k hk, fun e => absurd e (hni k hk)⟩⟩⟩
theorem Inh.of_add {H : Hist} {i : Nat} {p : World → Prop} (h : Inh w0 (H.add i p)) : Inh w0 H := let ⟨w, h1, h2⟩ := h; ⟨w, h1, fun k => (h2 k).1⟩
theorem Inh.K {H : Hist} {j : Nat} {w : World} (h : Gr w0 w ∧ ∀ i, H i w) : KQ md ops w0 H j w := ⟨h.1, fun i _ => h.2 i⟩
theorem still1_put {oi oj : Oper} {v u : Value} {a : Act} {w : World} (hsj : ∀ cs b, oj.op ≠ .select cs b) (h : ∀ d, oi.dst = some d → d ∉ oj.looksAt ops) : still1 P oj (a.put oi.dst v) w u ↔ still1 P oj a w u := by
  unfold still1; rw [execOp_put oj hsj a oi.dst v h]
theorem grows1_put {oi oj : Oper} {v : Value} {a : Act} {w : World} {p : Value → World → Prop} (hsj : ∀ cs b, oj.op ≠ .select cs b) (h : ∀ d, oi.dst = some d → d ∉ oj.looksAt ops) : grows1 P oj (a.put oi.dst v) w p ↔ grows1 P oj a w p := by
  unfold grows1; rw [execOp_put oj hsj a oi.dst v h]
theorem still1_unique {o : Oper} {a : Act} {w : World} {u v : Value} (h1 : still1 P o a w u) (h2 : still1 P o a w v) : u = v := by
  rcases h1 with h1 | ⟨h1, rfl⟩ <;> rcases h2 with h2 | ⟨h2, rfl⟩
  · rw [h1] at h2; simpa using h2
  · rw [h1] at h2; simp at h2
  · rw [h1] at h2; simp at h2
  · rfl
/-- whatever grows does hand back something -/
theorem grows1_ex {o : Oper} {a : Act} {w : World} {p : Value → World → Prop} (h : grows1 P o a w p) : ∃ v w', Gr w w' ∧ p v w' := by
  rcases h with ⟨v, w', _, h1, h2⟩ | ⟨f, args, _, hc⟩
  · exact ⟨v, w', h1, h2⟩
  · obtain ⟨e, w', fr, ⟨v, _, h1, h2⟩, _⟩ := hc []
    exact ⟨v, w', h1, h2⟩
/-- An operation that may come up now may be taken first. -/
theorem wpAnyG_first {N : Nat} {E : Array Bool → Prop} {i : Nat} {oi : Oper} (hE : ∀ listed, E listed → ∀ j ∈ Region.ready md ops listed, N ≤ j) (hW : ∀ listed, HeadInv md ops N listed → ∀ i, i < N → listed.getD i true = false → ∀ j ∈ Region.ready md ops listed, j < N) (hiN : i < N) (hS : Mono S) (hi : ops[i]? = some oi) (hsel : ∀ (j : Nat) (o : Oper) cs b, ops[j]? = some o → o.op ≠ .select cs b) :
    ∀ (fuel : Nat) (listed : Array Bool) (H : Hist) (a : Act), HMono H → HeadInv md ops N listed →
      (∀ j oj, ops[j]? = some oj → j ≠ i → listed.getD j true = false → (∀ e ∈ oj.after, Region.binds md e = true → e.on ≠ i) → oi.apart ops oj = true) →
      i ∈ Region.ready md ops listed → gOp P md ops w0 S i (wpAnyG P md ops w0 S N E Q fuel (listed.setIfInBounds i true)) H a → wpAnyG P md ops w0 S N E Q (fuel + 1) listed H a := by
  have hsi := fun cs b => hsel i oi cs b hi
  intro fuel
  induction fuel with
  | zero =>
    intro listed H a hH hc hfree hr G inh
    refine ⟨fun h => (by rw [h] at hr; cases hr), fun j hj => ?_⟩
    have hjN : j < N := hW listed hc i hiN (mem_ready.1 hr).1 j hj
    refine ⟨hjN, ?_⟩
    by_cases hji : j = i
    · subst hji; exact G
    · exfalso
      have hjr := ready_mono hj hji
      unfold gOp at G
      simp only [hi] at G
      split at G
      · split at G
        · obtain ⟨v, _, h2⟩ := G
          have := hE _ (h2 inh).1 j hjr; omega
        · rename_i p hs
          obtain ⟨w, hw1, hw2⟩ := inh
          obtain ⟨v, w', g, hp⟩ := grows1_ex (G.1 w (Inh.K ⟨hw1, hw2⟩))
          have := (G.2 v ⟨w', Gr.trans hw1 g, fun k => ⟨hH k _ _ g (hw2 k), fun _ => hp⟩⟩).1
          have := hE _ this j hjr; omega
      · have := hE _ (G inh).1 j hjr; omega
  | succ fuel ih =>
    intro listed H a hH hc hfree hr G inh
    refine ⟨fun h => (by rw [h] at hr; cases hr), fun j hj => ?_⟩
    have hjN : j < N := hW listed hc i hiN (mem_ready.1 hr).1 j hj
    refine ⟨hjN, ?_⟩
    by_cases hji : j = i
    · subst hji; exact G
    · have hjr := ready_mono hj hji
      have hir := ready_mono hr (Ne.symm hji)
      obtain ⟨hjun, oj, hoj, hall⟩ := mem_ready.1 hj
      have hiun := (mem_ready.1 hr).1
      have hnot : ∀ e ∈ oj.after, Region.binds md e = true → e.on ≠ i := fun e he hb heq => by
        have h1 := hall e he hb
        rw [heq, getD_both hiun] at h1
        cases h1
      have hsj := fun cs b => hsel j oj cs b hoj
      obtain ⟨a1, a2, a3⟩ := Oper.apart_spec (hfree j oj hoj hji hjun hnot)
      have hc2 := hc.set hj hjN
      have hfree' : ∀ k ok, ops[k]? = some ok → k ≠ i → (listed.setIfInBounds j true).getD k true = false →
          (∀ e ∈ ok.after, Region.binds md e = true → e.on ≠ i) → oi.apart ops ok = true := fun k ok hk hki hun hno => by
        refine hfree k ok hk hki ?_ hno
        by_cases hjk : j = k
        · subst hjk; exact hjun
        · rw [getD_set_ne true hjk] at hun; exact hun
      have hKj : ∀ {H : Hist} {p : World → Prop} (w : World), KQ md ops w0 (H.add i p) j w ↔ KQ md ops w0 H j w := fun w => KQ_add hc.closed hj hiun w
      have hKi : ∀ {H : Hist} {p : World → Prop} (w : World), KQ md ops w0 (H.add j p) i w ↔ KQ md ops w0 H i w := fun w => KQ_add hc.closed hr hjun w
      have hcomm := Array.setIfInBounds_comm (xs := listed) true true (Ne.symm hji)
      obtain ⟨w, hw1, hw2⟩ := inh
      have inh : Inh w0 H := ⟨w, hw1, hw2⟩
      unfold gOp at G ⊢
      simp only [hi] at G
      simp only [hoj]
      by_cases hwi : Region.wanted oi (yielded ops a.tmps) = true
      · simp only [hwi, if_true] at G
        cases hs : S i with
        | none =>
          simp only [hs] at G
          obtain ⟨v, hv, hG⟩ := G
          have h1 := ((hG inh).2 j hjr).2
          unfold gOp at h1
          simp only [hoj, wanted_put oj a oi.dst v a1] at h1
          have base : ∀ (H' : Hist) (u : Value), HMono H' → (∀ w, KQ md ops w0 H' i w → KQ md ops w0 H i w) → wpAnyG P md ops w0 S N E Q fuel ((listed.setIfInBounds i true).setIfInBounds j true) H' ((a.put oi.dst v).put oj.dst u) → wpAnyG P md ops w0 S N E Q (fuel + 1) (listed.setIfInBounds j true) H' (a.put oj.dst u) := by
            intro H' u hH' hsub hk
            refine ih _ _ _ hH' hc2 hfree' hir ?_
            unfold gOp
            simp only [hi, wanted_put oi a oj.dst u a3, hwi, if_true, hs]
            refine ⟨v, fun w hw => (still1_put hsi a3).2 (hv w (hsub w hw)), ?_⟩
            rw [← hcomm, ← Act.put_comm a v u a2]; exact hk
          split
          · rename_i hwj
            simp only [hwj, if_true] at h1
            cases hsj2 : S j with
            | none =>
              simp only [hsj2] at h1
              obtain ⟨u, hu, hk⟩ := h1
              exact ⟨u, fun w hw => (still1_put hsj a1).1 (hu w hw), base H u hH (fun _ h => h) hk⟩
            | some q =>
              simp only [hsj2] at h1
              exact ⟨fun w hw => (grows1_put hsj a1).1 (h1.1 w hw), fun u => base (H.add j (q u)) u (hH.add (hS j q hsj2 u)) (fun w hw => (hKi w).1 hw) (h1.2 u)⟩
          · rename_i hwj
            simp only [hwj] at h1
            exact base H undef hH (fun _ h => h) h1
        | some p =>
          simp only [hs] at G
          obtain ⟨hg, hG⟩ := G
          obtain ⟨v0, w', g, hp⟩ := grows1_ex (hg w (Inh.K ⟨hw1, hw2⟩))
          have inh0 : Inh w0 (H.add i (p v0)) := ⟨w', Gr.trans hw1 g, fun k => ⟨hH k _ _ g (hw2 k), fun _ => hp⟩⟩
          have h1 : ∀ v, Inh w0 (H.add i (p v)) → gOp P md ops w0 S j (wpAnyG P md ops w0 S N E Q fuel ((listed.setIfInBounds i true).setIfInBounds j true)) (H.add i (p v)) (a.put oi.dst v) := fun v hv => ((hG v hv).2 j hjr).2
          unfold gOp at h1
          simp only [hoj, wanted_put oj a oi.dst _ a1] at h1
          have base : ∀ (H' : Hist) (u : Value), HMono H' → (∀ w, KQ md ops w0 H' i w → KQ md ops w0 H i w) → (∀ v, Inh w0 (H'.add i (p v)) → wpAnyG P md ops w0 S N E Q fuel ((listed.setIfInBounds i true).setIfInBounds j true) (H'.add i (p v)) ((a.put oi.dst v).put oj.dst u)) → wpAnyG P md ops w0 S N E Q (fuel + 1) (listed.setIfInBounds j true) H' (a.put oj.dst u) := by
            intro H' u hH' hsub hk
            refine ih _ _ _ hH' hc2 hfree' hir ?_
            unfold gOp
            simp only [hi, wanted_put oi a oj.dst u a3, hwi, if_true, hs]
            refine ⟨fun w hw => (grows1_put hsi a3).2 (hg w (hsub w hw)), fun v => ?_⟩
            rw [← hcomm, ← Act.put_comm a v u a2]
            cases fuel with
            | zero => intro hin; exact hk v hin hin
            | succ fuel => intro hin; exact hk v hin hin
          split
          · rename_i hwj
            simp only [hwj, if_true] at h1
            cases hsj2 : S j with
            | none =>
              simp only [hsj2] at h1
              obtain ⟨u, hu, _⟩ := h1 v0 inh0
              have hu' : ∀ w, KQ md ops w0 H j w → still1 P oj a w u := fun w hw => (still1_put hsj a1).1 (hu w ((hKj w).2 hw))
              refine ⟨u, hu', base H u hH (fun _ h => h) fun v hv => ?_⟩
              obtain ⟨u2, hu2, hk⟩ := h1 v hv
              have : u2 = u := still1_unique ((still1_put hsj a1).1 (hu2 w ((hKj w).2 (Inh.K ⟨hw1, hw2⟩)))) (hu' w (Inh.K ⟨hw1, hw2⟩))
              subst this
              exact hk
            | some q =>
              simp only [hsj2] at h1
              refine ⟨fun w hw => (grows1_put hsj a1).1 ((h1 v0 inh0).1 w ((hKj w).2 hw)), fun u => base (H.add j (q u)) u (hH.add (hS j q hsj2 u)) (fun w hw => (hKi w).1 hw) fun v hv => ?_⟩
              rw [Hist.comm] at hv ⊢
              exact (h1 v hv.of_add).2 u
          · rename_i hwj
            simp only [hwj] at h1
            exact base H undef hH (fun _ h => h) fun v hv => h1 v hv
      · simp only [hwi] at G
        have h1 := ((G inh).2 j hjr).2
        unfold gOp at h1
        simp only [hoj, wanted_put oj a oi.dst undef a1] at h1
        have base : ∀ (H' : Hist) (u : Value), HMono H' → wpAnyG P md ops w0 S N E Q fuel ((listed.setIfInBounds i true).setIfInBounds j true) H' ((a.put oi.dst undef).put oj.dst u) → wpAnyG P md ops w0 S N E Q (fuel + 1) (listed.setIfInBounds j true) H' (a.put oj.dst u) := by
          intro H' u hH' hk
          refine ih _ _ _ hH' hc2 hfree' hir ?_
          unfold gOp
          simp only [hi, wanted_put oi a oj.dst u a3, hwi]
          rw [← hcomm]
          simp only [Bool.false_eq_true, if_false]
          rw [← Act.put_comm a undef u a2]; exact hk
        split
        · rename_i hwj
          simp only [hwj, if_true] at h1
          cases hsj2 : S j with
          | none =>
            simp only [hsj2] at h1
            obtain ⟨u, hu, hk⟩ := h1
            exact ⟨u, fun w hw => (still1_put hsj a1).1 (hu w hw), base H u hH hk⟩
          | some q =>
            simp only [hsj2] at h1
            exact ⟨fun w hw => (grows1_put hsj a1).1 (h1.1 w hw), fun u => base (H.add j (q u)) u (hH.add (hS j q hsj2 u)) (h1.2 u)⟩
        · rename_i hwj
          simp only [hwj] at h1
          exact base H undef hH h1
end
section
variable {P : Program} {ops : Array Oper} {md : Region.Mode} {w0 : World} {S : Nat → Option (Value → World → Prop)} {Q : Act → World → Prop}
/-- the walk in the order of the text; what an operation hands back is known to be possible -/
def wpL (P : Program) (md : Region.Mode) (ops : Array Oper) (w0 : World) (S : Nat → Option (Value → World → Prop)) (Q : Act → World → Prop) : List Oper → Nat → Hist → Act → Prop
  | [], _, H, a => ∀ w, Gr w0 w → (∀ i, H i w) → Q a w
  | o :: l, k, H, a => if Region.wanted o (yielded ops a.tmps) then
      (match S k with
       | none => ∃ v, (∀ w, KQ md ops w0 H k w → still1 P o a w v) ∧ wpL P md ops w0 S Q l (k + 1) H (a.put o.dst v)
       | some p => (∀ w, KQ md ops w0 H k w → grows1 P o a w p) ∧ ∀ v w1, Gr w0 w1 → (∀ i, H i w1) → p v w1 → wpL P md ops w0 S Q l (k + 1) (H.add k (p v)) (a.put o.dst v))
    else wpL P md ops w0 S Q l (k + 1) H (a.put o.dst undef)
/-- the lexical order serves -/
def lexG (md : Region.Mode) (ops : Array Oper) (E0 : Nat → Array Bool → Bool) : Nat → Nat → Array Bool → Bool
  | 0, k, listed => E0 k listed
  | f + 1, k, listed => (Region.ready md ops listed).contains k && Region.free md ops listed k && lexG md ops E0 f (k + 1) (listed.setIfInBounds k true)
theorem lexG_from : ∀ (f k : Nat) (listed : Array Bool), Region.lexFrom md ops f k listed = lexG md ops (fun _ l => (Region.ready md ops l).isEmpty) f k listed
  | 0, _, _ => rfl
  | f + 1, k, listed => by simp only [Region.lexFrom, lexG, lexG_from f]
theorem lexG_head (g : Nat) : ∀ (f k : Nat) (listed : Array Bool), Region.lexHead md ops g f k listed = lexG md ops (fun k l => Region.seqB md ops g k l) f k listed
  | 0, _, _ => rfl
  | f + 1, k, listed => by simp only [Region.lexHead, lexG, lexG_head g f]
theorem wpAnyG_lex {N : Nat} {E : Array Bool → Prop} {E0 : Nat → Array Bool → Bool} (hE0 : ∀ listed, E0 N listed = true → E listed) (hE : ∀ listed, E listed → ∀ j ∈ Region.ready md ops listed, N ≤ j) (hW : ∀ listed, HeadInv md ops N listed → ∀ i, i < N → listed.getD i true = false → ∀ j ∈ Region.ready md ops listed, j < N)
    (hS : Mono S) (hs : Region.noSelect ops = true) : ∀ (l : List Oper) (k : Nat) (listed : Array Bool) (H : Hist) (a : Act), (∀ j, j < l.length → l[j]? = ops[k + j]?) → k + l.length = N → HMono H → HeadInv md ops N listed →
    lexG md ops E0 l.length k listed = true → wpL P md ops w0 S Q l k H a → wpAnyG P md ops w0 S N E Q l.length listed H a
  | [], k, listed, _, _, _, hk, _, _, hB, h => fun _ => by
    have hkN : k = N := by simpa using hk
    subst hkN
    exact ⟨hE0 _ (by simpa [lexG] using hB), h⟩
  | o :: l, k, listed, H, a, hl, hk, hH, hc, hB, h => by
    have h0 : ops[k]? = some o := by simpa using (hl 0 (by simp)).symm
    simp only [List.length_cons, lexG, Bool.and_eq_true] at hB
    obtain ⟨⟨hr, hf⟩, hB'⟩ := hB
    have hr' : k ∈ Region.ready md ops listed := by simpa using hr
    have hkN : k < N := by simp only [List.length_cons] at hk; omega
    have hk' : k + 1 + l.length = N := by simp only [List.length_cons] at hk; omega
    have hl' : ∀ j, j < l.length → l[j]? = ops[k + 1 + j]? := fun j hj => by have := hl (j + 1) (by simp; omega); simpa [Nat.add_assoc, Nat.add_comm 1 j] using this
    refine wpAnyG_first hE hW hkN hS h0 (Region.noSelect_spec hs) l.length listed H a hH hc (Region.free_spec h0 hf) hr' ?_
    unfold wpL at h
    unfold gOp
    simp only [h0]
    split
    · rename_i hw
      simp only [hw, if_true] at h
      cases hsk : S k with
      | none =>
        simp only [hsk] at h
        obtain ⟨v, h1, h2⟩ := h
        exact ⟨v, h1, wpAnyG_lex hE0 hE hW hS hs l (k + 1) _ _ _ hl' hk' hH (hc.set hr' hkN) hB' h2⟩
      | some p =>
        simp only [hsk] at h
        refine ⟨h.1, fun v => ?_⟩
        have hgo : Inh w0 (H.add k (p v)) → wpAnyG P md ops w0 S N E Q l.length (listed.setIfInBounds k true) (H.add k (p v)) (a.put o.dst v) := fun ⟨w1, g1, g2⟩ =>
          wpAnyG_lex hE0 hE hW hS hs l (k + 1) _ _ _ hl' hk' (hH.add (hS k p hsk v)) (hc.set hr' hkN) hB' (h.2 v w1 g1 (fun i => (g2 i).1) ((g2 k).2 rfl))
        cases l with
        | nil => intro hin; exact hgo hin hin
        | cons o' l' => intro hin; exact hgo hin hin
    · rename_i hw
      simp only [hw] at h
      exact wpAnyG_lex hE0 hE hW hS hs l (k + 1) _ _ _ hl' hk' hH (hc.set hr' hkN) hB' h
theorem wp_of_still1 {o : Oper} {a : Act} {w : World} {v : Value} {K : Act → World → Prop} {Q' : Exit → Act → World → Prop} (h : still1 P o a w v) (hK : K (a.put o.dst v) w) : o.wp P a w K Q' := by
  unfold Oper.wp
  rcases h with h | ⟨h, rfl⟩ <;> (rw [h]; exact hK)
theorem wp_of_grows1 {o : Oper} {a : Act} {w : World} {p : Value → World → Prop} {K : Act → World → Prop} {Q' : Exit → Act → World → Prop} (h : grows1 P o a w p) (hK : ∀ v w', Gr w w' → p v w' → K (a.put o.dst v) w') : o.wp P a w K Q' := by
  unfold Oper.wp
  rcases h with ⟨v, w', h, g, hp⟩ | ⟨f, args, h, hc⟩
  · rw [h]; exact hK _ _ g hp
  · rw [h]
    exact hc.mono fun e w' ⟨v, he, g, hp⟩ => by subst he; exact hK _ _ g hp
theorem wpAny_of_G {N g : Nat} {E : Array Bool → Prop} {Q' : Exit → Act → World → Prop} (hS : Mono S) (hQ : ∀ listed a w, E listed → Q a w → wpAny P md ops Q' g listed a w) : ∀ (fuel : Nat) (listed : Array Bool) (H : Hist) (a : Act) (w : World), HMono H → Gr w0 w → (∀ i, H i w) →
    wpAnyG P md ops w0 S N E Q fuel listed H a → wpAny P md ops Q' (fuel + g) listed a w
  | 0, _, _, _, w, _, gr, hw, h => by rw [Nat.zero_add]; exact hQ _ _ _ (h ⟨w, gr, hw⟩).1 ((h ⟨w, gr, hw⟩).2 w gr hw)
  | fuel + 1, listed, H, a, w, hH, gr, hw, h => by
    have h1 := h ⟨w, gr, hw⟩
    rw [show fuel + 1 + g = (fuel + g) + 1 by omega]
    refine ⟨fun h0 => absurd h0 h1.1, fun i hi => ?_⟩
    have h2 := (h1.2 i hi).2
    unfold gOp at h2
    unfold wpOp
    split
    · rename_i ho; simp only [ho] at h2; exact wpAny_of_G hS hQ fuel _ _ _ _ hH gr hw h2
    · rename_i o ho
      simp only [ho] at h2
      split
      · rename_i hwn
        simp only [hwn, if_true] at h2
        refine .inl ?_
        cases hsk : S i with
        | none =>
          simp only [hsk] at h2
          obtain ⟨v, h3, h4⟩ := h2
          exact wp_of_still1 (h3 w (Inh.K ⟨gr, hw⟩)) (wpAny_of_G hS hQ fuel _ _ _ _ hH gr hw h4)
        | some p =>
          simp only [hsk] at h2
          exact wp_of_grows1 (h2.1 w (Inh.K ⟨gr, hw⟩)) fun v w' g' hp => wpAny_of_G hS hQ fuel _ _ _ _ (hH.add (hS i p hsk v)) (Gr.trans gr g') (fun k => ⟨hH k _ _ g' (hw k), fun _ => hp⟩) (h2.2 v)
      · rename_i hwn
        simp only [hwn] at h2
        exact wpAny_of_G hS hQ fuel _ _ _ _ hH gr hw h2
theorem head0 (md : Region.Mode) (ops : Array Oper) (N : Nat) : HeadInv md ops N (Array.replicate ops.size false) :=
  ⟨by simp, fun j oj _ hl => (by rw [getD_replicate_false] at hl; cases hl), fun t _ ht => getD_in (by simpa using ht) (getD_replicate_false _ _)⟩
end
section
variable {P : Program} {n : Nat} {ops : Array Oper} {w : World} {S : Nat → Option (Value → World → Prop)} {Q : Env → World → Prop} {e : Env} {H : Hist} {k : Nat} {rest l : List Oper} {o : Oper} {d : Nat} {T : Tab}
def VG (P : Program) (n : Nat) (ops : Array Oper) (w : World) (S : Nat → Option (Value → World → Prop)) (Q : Env → World → Prop) (l : List Oper) (k : Nat) (H : Hist) (e : Env) : Prop :=
  wpL P .any ops w S (fun a w' => ∃ e', a = act n e' ∧ Q e' w') l k H (act n e)
def H0 : Hist := fun _ _ => True
/-- the same, with a tail that stands in its order -/
theorem drawGT {id : Nat} {l : List Oper} {Q : Post} (N : Nat) (S : Nat → Option (Value → World → Prop)) (hm : P.follows .mixedOrders = true) (hB : Region.lexTailB .any l.toArray N = true) (hS : Mono S)
    (h : VG P n l.toArray w S (fun e' w' => VL P n l.toArray Q (l.drop N) e' w') (l.take N) 0 H0 e) : VC P n (.region id l.toArray true) Q e w := by
  unfold VC
  simp only [Region.lexTailB, Bool.and_eq_true, decide_eq_true_eq] at hB
  obtain ⟨⟨⟨⟨hsel, hn⟩, hs⟩, hc⟩, hlex⟩ := hB
  have hn' : N < l.length := by simpa using hn
  have htl : (l.take N).length = N := by simp; omega
  have hdl : (l.drop N).length = l.toArray.size - N := by simp
  refine wp_region_any hm ?_
  have hE : ∀ listed, Region.seqB .any l.toArray (l.toArray.size - N) N listed = true → ∀ j ∈ Region.ready .any l.toArray listed, N ≤ j := fun listed h => seqB_ready h
  have hW : ∀ listed, HeadInv .any l.toArray N listed → ∀ i, i < N → listed.getD i true = false → ∀ j ∈ Region.ready .any l.toArray listed, j < N := fun listed inv i hi hun j hj => by
    rcases Nat.lt_or_ge j N with h1 | h1
    · exact h1
    · exact absurd hj (tail_waits hs hc hn inv _ i rfl hi hun j h1)
  have hg := wpAnyG_lex (E := fun ls => Region.seqB .any l.toArray (l.toArray.size - N) N ls = true) (E0 := fun k ls => Region.seqB .any l.toArray (l.toArray.size - N) k ls) (fun _ h => h) hE hW hS hsel (l.take N) 0 (Array.replicate l.toArray.size false) H0 (act n e) (fun j hj => by
    have hj' : j < N := by rw [htl] at hj; exact hj
    simp [hj']) (by rw [htl]; simp) (fun _ _ _ _ h => h) (head0 _ _ _) (by rw [← lexG_head, htl]; exact hlex) h
  have := wpAny_of_G (g := l.toArray.size - N) (Q' := lift n Q) hS (fun ls a w' h1 h2 => by
    obtain ⟨e', rfl, h3⟩ := h2
    unfold VL at h3
    have := wpAny_of_seq (md := .any) (Q' := lift n Q) (l.drop N) N ls (act n e') w' (fun j => by simp [List.getElem?_drop]) (by rw [hdl]; exact h1) h3
    rwa [hdl] at this) _ _ _ _ w.drew (fun _ _ _ _ h => h) (gr_drew w) (fun _ => trivial) hg
  rw [htl, show N + (l.toArray.size - N) = l.toArray.size by omega] at this
  exact this
end
/-! ### The rules of VG -/
section
variable {P : Program} {n : Nat} {ops : Array Oper} {w : World} {S : Nat → Option (Value → World → Prop)} {Q : Env → World → Prop} {e : Env} {H : Hist} {q : Nat} {rest l : List Oper} {o : Oper} {d : Nat} {T : Tab}
theorem gnil (h : ∀ w', Gr w w' → (∀ i, H i w') → Q e w') : VG P n ops w S Q [] q H e := fun w' g hw => ⟨e, rfl, h w' g hw⟩
theorem gstep {v : Value} (hg : o.guard = none) (hd : o.dst = some d) (hS : S q = none) (hr : ∀ w', KQ .any ops w H q w' → (execOp (act n e).eval o).run P w' = .ok (.value v) w') (K : VG P n ops w S Q rest (q + 1) H (e.set d v)) : VG P n ops w S Q (o :: rest) q H e := by
  unfold VG wpL
  rw [if_pos (by simp [Region.wanted, hg])]
  simp only [hS]
  exact ⟨v, fun w' hw' => .inl (hr w' hw'), by rw [act_put, hd]; exact K⟩
theorem gyes {j : Nat} {b : Bool} {o' : Oper} (hg : o.guard = some (j, b)) (hy : yldE ops n e j = some b) (ho : { o with guard := none } = o') (K : VG P n ops w S Q (o' :: rest) q H e) : VG P n ops w S Q (o :: rest) q H e := by
  subst ho
  unfold VG wpL at K ⊢
  have h1 : Region.wanted o (yielded ops (act n e).tmps) = true := by simp [Region.wanted, hg, yld_run hy]
  have h2 : Region.wanted { o with guard := none } (yielded ops (act n e).tmps) = true := by simp [Region.wanted]
  rw [if_pos h1]
  rw [if_pos h2] at K
  exact K
theorem gno {j : Nat} {b b' : Bool} (hg : o.guard = some (j, b')) (hy : yldE ops n e j = some b) (hne : (b == b') = false) (hd : o.dst = some d) (K : VG P n ops w S Q rest (q + 1) H (e.set d undef)) : VG P n ops w S Q (o :: rest) q H e := by
  unfold VG wpL
  have h1 : ¬ Region.wanted o (yielded ops (act n e).tmps) = true := by simpa [Region.wanted, hg, yld_run hy] using hne
  rw [if_neg h1, act_put, hd]
  exact K
theorem gnoU {j : Nat} {b' : Bool} (hg : o.guard = some (j, b')) (hy : yldE ops n e j = none) (hd : o.dst = some d) (K : VG P n ops w S Q rest (q + 1) H (e.set d undef)) : VG P n ops w S Q (o :: rest) q H e := by
  unfold VG wpL
  have h1 : ¬ Region.wanted o (yielded ops (act n e).tmps) = true := by simp [Region.wanted, hg, yld_none hy]
  rw [if_neg h1, act_put, hd]
  exact K
theorem grun (hT : tabB P T = true) : ∀ (m : Nat) {l : List Oper} {e e' : Env} {q : Nat}, runK T n ops m l e = some (e', rest) → (∀ i, q ≤ i → i < q + m → S i = none) → VG P n ops w S Q rest (q + m) H e' → VG P n ops w S Q l q H e
  | 0, l, e, e', q, h, _, hk => by simp only [runK, Option.some.injEq, Prod.mk.injEq] at h; obtain ⟨rfl, rfl⟩ := h; exact hk
  | m + 1, [], e, e', q, h, _, hk => by simp [runK] at h
  | m + 1, o :: l, e, e', q, h, hS, hk => by
    have hS0 := hS q (Nat.le_refl _) (by omega)
    have hS1 : ∀ i, q + 1 ≤ i → i < q + 1 + m → S i = none := fun i h1 h2 => hS i (by omega) (by omega)
    rw [show q + (m + 1) = q + 1 + m by omega] at hk
    simp only [runK] at h
    split at h
    · cases h
    · rename_i d hd
      split at h
      · rename_i hg
        split at h
        · rename_i v hv; exact gstep hg hd hS0 (fun _ _ => pureOp_run hT hv) (grun hT m h hS1 hk)
        · cases h
      · rename_i j b hg
        split at h
        · rename_i b' hy
          cases hb : b' == b with
          | true =>
            rw [hb] at h
            simp only [cond_true] at h
            have : b' = b := eq_of_beq hb
            subst this
            split at h
            · rename_i v hv; exact gyes hg hy rfl (gstep (o := { o with guard := none }) rfl hd hS0 (fun _ _ => pureOp_run (o := { o with guard := none }) hT hv) (grun hT m h hS1 hk))
            · cases h
          | false =>
            rw [hb] at h
            exact gno hg hy hb hd (grun hT m h hS1 hk)
        · rename_i hy
          exact gnoU hg hy hd (grun hT m h hS1 hk)
/-- an operation with a property of its own -/
theorem ggrow {p : Value → World → Prop} (hg : o.guard = none) (hd : o.dst = some d) (hS : S q = some p) (hr : ∀ w', KQ .any ops w H q w' → grows1 P o (act n e) w' p)
    (K : ∀ v w1, Gr w w1 → (∀ i, H i w1) → p v w1 → VG P n ops w S Q rest (q + 1) (H.add q (p v)) (e.set d v)) : VG P n ops w S Q (o :: rest) q H e := by
  unfold VG wpL
  rw [if_pos (by simp [Region.wanted, hg])]
  simp only [hS]
  refine ⟨hr, fun v w1 g1 g2 g3 => ?_⟩
  rw [act_put, hd]
  exact K v w1 g1 g2 g3
theorem gcall {p : Value → World → Prop} {f : Nat} {args : List Value} (hs : ∀ w', KQ .any ops w H q w' → Meets P f args w' (fun v w'' => p v w'' ∧ Gr w' w'')) (hS : S q = some p) (hc : callE n e o = some (f, args)) (hg : o.guard = none) (hd : o.dst = some d)
    (K : ∀ v w1, Gr w w1 → (∀ i, H i w1) → p v w1 → VG P n ops w S Q rest (q + 1) (H.add q (p v)) (e.set d v)) : VG P n ops w S Q (o :: rest) q H e :=
  ggrow hg hd hS (fun w' hw' => .inr ⟨f, args.toArray, callE_run (hs w' hw').1 hc, (hs w' hw').2.mono (by rintro _ w'' ⟨v, rfl, h1, h2⟩; exact ⟨v, rfl, h2, h1⟩)⟩) K
theorem gloadA (hT : tabB P T = true) {b o0 off t : Nat} {cs : List Value} {x : Operand} {v : Value} (F : ∀ w', KQ .any ops w H q w' → At w' b o0 cs) (ho : o.op = .load t x) (hx : evn n e x = some (.pointer (some ⟨b, o0 + off, none⟩))) (hv : force (loadC T t cs off) = some v) (hg : o.guard = none) (hd : o.dst = some d) (hS : S q = none)
    (K : VG P n ops w S Q rest (q + 1) H (e.set d v)) : VG P n ops w S Q (o :: rest) q H e := by
  refine gstep hg hd hS (fun w' hw' => ?_) K
  simp only [execOp, ho, evn_eval hx]
  refine run_pure_value ?_
  rw [force_eq] at hv
  simp [Instr.loadAt, Instr.sureAddr, run_loadC hT (F w' hw') hv]
theorem gloadO (hT : tabB P T = true) {b off t ty : Nat} {cs : List Value} {x : Operand} {v : Value} (F : ∀ w', KQ .any ops w H q w' → Cells w' b cs ty) (ho : o.op = .load t x) (hx : evn n e x = some (.pointer (some ⟨b, off, none⟩))) (hv : force (loadC T t cs off) = some v) (hg : o.guard = none) (hd : o.dst = some d) (hS : S q = none)
    (K : VG P n ops w S Q rest (q + 1) H (e.set d v)) : VG P n ops w S Q (o :: rest) q H e :=
  gloadA hT (o0 := 0) (off := off) (fun w' hw' => (F w' hw').at_) ho (by rw [Nat.zero_add]; exact hx) hv hg hd hS K
end
/-- the specs, each at its operation -/
def sel : List (Nat × (Value → World → Prop)) → Nat → Option (Value → World → Prop)
  | [], _ => none
  | (i, p) :: r, k => bif Nat.beq k i then some p else sel r k
def clearB (keys : List Nat) (q m : Nat) : Bool := keys.all fun i => Nat.blt i q || Nat.ble (q + m) i
theorem sel_none : ∀ {L : List (Nat × (Value → World → Prop))} {q m : Nat}, clearB (L.map (·.1)) q m = true → ∀ i, q ≤ i → i < q + m → sel L i = none
  | [], _, _, _, _, _, _ => rfl
  | (k, p) :: r, q, m, h, i, h1, h2 => by
    simp only [clearB, List.map_cons, List.all_cons, Bool.and_eq_true, Bool.or_eq_true] at h
    have hne : Nat.beq i k = false := by
      cases hb : Nat.beq i k with
      | false => rfl
      | true =>
        have := Nat.eq_of_beq_eq_true hb
        subst this
        rcases h.1 with h3 | h3
        · have := Nat.le_of_ble_eq_true h3; omega
        · have := Nat.le_of_ble_eq_true h3; omega
    simp only [sel, hne, cond_false]
    exact sel_none h.2 i h1 h2
def Mono1 (p : Value → World → Prop) : Prop := ∀ v w w', Gr w w' → p v w → p v w'
theorem mono_nil : Mono (sel []) := fun i p h => by cases h
theorem mono_cons {k : Nat} {p : Value → World → Prop} {r : List (Nat × (Value → World → Prop))} (h1 : Mono1 p) (h2 : Mono (sel r)) : Mono (sel ((k, p) :: r)) := by
  intro i p' h
  simp only [sel] at h
  cases hb : Nat.beq i k with
  | true => rw [hb] at h; simp only [cond_true, Option.some.injEq] at h; subst h; exact h1
  | false => rw [hb] at h; exact h2 i p' h
theorem KQ.get {md : Region.Mode} {ops : Array Oper} {w0 w : World} {H : Hist} {j i : Nat} (h : KQ md ops w0 H j w) (hd : depB md ops ops.size j i = true) : H i w := h.2 i hd
theorem Hist.here {H : Hist} {i : Nat} {p : World → Prop} {w : World} (h : (H.add i p) i w) : p w := h.2 rfl
theorem Hist.old {H : Hist} {i j : Nat} {p : World → Prop} {w : World} (h : (H.add i p) j w) : H j w := h.1
theorem eqV_mono {u : Value} : Mono1 (fun v _ => v = u) := fun _ _ _ _ h => h
attribute [irreducible] VG
section
variable {P : Program} {n : Nat} {ops : Array Oper} {w : World} {S : Nat → Option (Value → World → Prop)} {Q : Env → World → Prop} {e : Env} {H : Hist} {q : Nat} {rest l : List Oper} {o : Oper} {d : Nat} {T : Tab}
theorem gmkStruct (hT : tabB P T = true) {t sz : Nat} {fs : List (Nat × Nat × Nat × Bool)} {parts : Array (Nat × Operand)} {cs : List Value} {z : Value} (hz : zeroT P t = some z) (ho : o.op = .build t parts) (ht : look T t = some (.struct sz fs))
    (hp : buildS n e fs (cellsL z) parts.toList = some cs) (hg : o.guard = none) (hd : o.dst = some d) (hS : S q = none) (K : VG P n ops w S Q rest (q + 1) H (e.set d (.agg cs.toArray))) : VG P n ops w S Q (o :: rest) q H e := by
  obtain ⟨fields, hu, hfs, hsz⟩ := look_struct hT ht
  refine gstep hg hd hS (fun w' _ => ?_) K
  simp only [execOp, ho]
  refine run_pure_value ?_
  have hpl := places_run (P := P) (w := w') hfs
  have hfill := buildS_fill hp
  have hfun : (parts.map fun x => match x with | (i, x) => (i, (act n e).eval x)).toList = parts.toList.map fun p => (p.1, (act n e).eval p.2) := by
    rw [Array.toList_map]
  have hpl2 : (fields.mapM fun f => do pure (f.offset, ← sizeOf f.type) : Sem (Array (Nat × Nat))).run P w' = .ok (fs.map fun g => (g.2.1, g.2.2.1)).toArray w' := by
    rw [Array.mapM_eq_mapM_toList]
    simp only [bind_pure_comp] at hpl
    simp [hpl]
  unfold Instr.build
  simp only [Sem.run_bind, run_zero hz, Result.andThen_ok, run_underlying hu, hpl2, hfun]
  have hc : z.cells = (cellsL z).toArray := cellsL_eq z
  rw [hc, hfill]
  rfl
end
section
variable {P : Program} {n : Nat} {ops : Array Oper} {w : World} {KC : World → Prop} {Q' : Env → Prop} {e : Env} {rest l : List Oper} {o : Oper} {d : Nat} {T : Tab}
theorem qmkStruct (hT : tabB P T = true) {t sz : Nat} {fs : List (Nat × Nat × Nat × Bool)} {parts : Array (Nat × Operand)} {cs : List Value} {z : Value} (hz : zeroT P t = some z) (ho : o.op = .build t parts) (ht : look T t = some (.struct sz fs))
    (hp : buildS n e fs (cellsL z) parts.toList = some cs) (hg : o.guard = none) (hd : o.dst = some d) (K : VQ P n ops KC w Q' rest (e.set d (.agg cs.toArray))) : VQ P n ops KC w Q' (o :: rest) e := by
  obtain ⟨fields, hu, hfs, hsz⟩ := look_struct hT ht
  refine qstep hg hd (fun w' _ => ?_) K
  simp only [execOp, ho]
  refine run_pure_value ?_
  have hpl := places_run (P := P) (w := w') hfs
  have hfill := buildS_fill hp
  have hfun : (parts.map fun x => match x with | (i, x) => (i, (act n e).eval x)).toList = parts.toList.map fun p => (p.1, (act n e).eval p.2) := by
    rw [Array.toList_map]
  have hpl2 : (fields.mapM fun f => do pure (f.offset, ← sizeOf f.type) : Sem (Array (Nat × Nat))).run P w' = .ok (fs.map fun g => (g.2.1, g.2.2.1)).toArray w' := by
    rw [Array.mapM_eq_mapM_toList]
    simp only [bind_pure_comp] at hpl
    simp [hpl]
  unfold Instr.build
  simp only [Sem.run_bind, run_zero hz, Result.andThen_ok, run_underlying hu, hpl2, hfun]
  have hc : z.cells = (cellsL z).toArray := cellsL_eq z
  rw [hc, hfill]
  rfl
end
/-! ### Results that lie in memory -/
section
variable {P : Program} {n : Nat} {fn : Func} {Φ : Value → World → Prop} {e : Env} {w : World} {T : Tab}
def ResV (P : Program) (n : Nat) (e : Env) (w : World) (r : ResultVar) (v : Value) : Prop := (resF n e r).run P w = .ok v w
theorem resV_tmp {t : Nat} {v : Value} (h : force (evn n e (.tmp t)) = some v) : ResV P n e w (.tmp t) v := by
  rw [force_eq] at h
  have h3 := evn_eval h
  simp only [Act.eval] at h3
  simp only [ResV, resF, h3, Sem.run_pure]
theorem resV_cell (hT : tabB P T = true) {a t k off ct : Nat} {cs : List Value} {v : Value} (F : Cells w k cs ct) (hp : evn n e (.tmp a) = some (.pointer (some ⟨k, off, none⟩))) (hv : force (loadC T t cs off) = some v) : ResV P n e w (.cell a t) v := by
  rw [force_eq] at hv
  have h3 := evn_eval hp
  simp only [Act.eval] at h3
  have h4 := run_loadC (o0 := 0) (P := P) hT F.at_ hv
  rw [Nat.zero_add] at h4
  simp only [ResV, resF, h3]
  simp [asAddr, h4]
theorem done1 {r : ResultVar} {v : Value} (hr : fn.results = #[r]) (h : ResV P n e w r v) (hq : Φ v w) : fin P n fn Φ .ret e w := by
  refine ⟨v, ?_, hq⟩
  rw [results_eq, hr]
  unfold ResV at h
  simp [h]
theorem done2 {r1 r2 : ResultVar} {v1 v2 : Value} (hr : fn.results = #[r1, r2]) (h1 : ResV P n e w r1 v1) (h2 : ResV P n e w r2 v2) (hq : Φ (.tuple #[v1, v2]) w) : fin P n fn Φ .ret e w := by
  refine ⟨_, ?_, hq⟩
  rw [results_eq, hr]
  unfold ResV at h1 h2
  simp [h1, h2]
end
/-! ### Rows between two numbers -/
abbrev In (lo hi : Nat) : Nat → Prop := fun k => lo ≤ k ∧ k < hi
theorem In.sub {lo hi lo' hi' : Nat} (h1 : lo' ≤ lo) (h2 : hi ≤ hi') : ∀ k, In lo hi k → In lo' hi' k := fun _ h => ⟨Nat.le_trans h1 h.1, Nat.lt_of_lt_of_le h.2 h2⟩
/-- The slice is nothing, or in a row of its own, a block from lo on below hi; what its elements lead to lies there too, or is B's. -/
structure Row {α : Type} (C : Cod α) (t : Nat) (w : World) (B : Nat → Prop) (lo hi : Nat) (a : Option Addr) (c : Nat) (xs : List α) : Prop where
  ex : (a = none ∧ c = 0 ∧ xs = []) ∨ ∃ (g : Nat) (D : Nat → Prop), lo ≤ g ∧ g < hi ∧ ¬ D g ∧ (∀ k, D k → B k ∨ In lo hi k) ∧ Own C t w D g a c xs
section
variable {P : Program} {α : Type} {C : Cod α} {w w' : World} {B B' D : Nat → Prop} {lo hi lo' hi' t c k : Nat} {a : Option Addr} {xs ys : List α}
theorem Row.nil : Row C t w B lo hi none 0 [] := ⟨.inl ⟨rfl, rfl, rfl⟩⟩
theorem Row.gr (h : Row C t w B lo hi a c xs) (f : Gr w w') : Row C t w' B lo hi a c xs := ⟨h.ex.imp id fun ⟨g, D, h1, h2, h3, h4, h5⟩ => ⟨g, D, h1, h2, h3, h4, h5.gr f⟩⟩
theorem Row.mv1 (h : Row C t w B lo hi a c xs) (f : Fr [k] w w') (hk : ¬ B k ∧ ¬ In lo hi k) : Row C t w' B lo hi a c xs :=
  ⟨h.ex.imp id fun ⟨g, D, h1, h2, h3, h4, h5⟩ => ⟨g, D, h1, h2, h3, h4, h5.mv1 f ⟨by rintro rfl; exact hk.2 ⟨h1, h2⟩, fun hD => (h4 k hD).elim hk.1 hk.2⟩⟩⟩
theorem Row.mono (h : Row C t w B lo hi a c xs) (hB : ∀ k, B k → B' k) (h1 : lo' ≤ lo) (h2 : hi ≤ hi') : Row C t w B' lo' hi' a c xs :=
  ⟨h.ex.imp id fun ⟨g, D, h3, h4, h5, h6, h7⟩ => ⟨g, D, Nat.le_trans h1 h3, Nat.lt_of_lt_of_le h4 h2, h5, fun k hk => (h6 k hk).imp (hB k) (In.sub h1 h2 k), h7⟩⟩
theorem Row.slB (h : Row C t w B lo hi a c xs) : Sl C w (fun k => B k ∨ In lo hi k) a c xs := by
  rcases h.ex with ⟨rfl, rfl, rfl⟩ | ⟨g, D, h1, h2, h3, h4, h5⟩
  · exact Sl.nil _ _ _ _ _ (Nat.zero_le _)
  · exact h5.sl h4 (.inr ⟨h1, h2⟩)
theorem Row.sl (h : Row C t w None' lo hi a c xs) : Sl C w (In lo hi) a c xs := h.slB.mono fun _ h => h.elim False.elim id
theorem Row.len63 (h : Row C t w B lo hi a c xs) : xs.length ≤ 9223372036854775807 := h.slB.len63
theorem Row.ofOwn {g : Nat} (h : Own C t w D g a c xs) (h1 : lo ≤ g) (h2 : g < hi) (hg : ¬ D g) (hD : ∀ k, D k → B k ∨ In lo hi k) : Row C t w B lo hi a c xs := ⟨.inr ⟨g, D, h1, h2, hg, hD, h⟩⟩
/-- a row with elements has its block -/
theorem Row.own (hf : Flat C) (h : Row C t w B lo hi a c xs) : ∃ g, Own C t w None' g a c xs ∧ (xs = [] ∧ g = w.heap.size ∨ (lo ≤ g ∧ g < hi)) := by
  rcases h.ex with ⟨rfl, rfl, rfl⟩ | ⟨g, D, h1, h2, h3, h4, h5⟩
  · exact ⟨_, Own.nil _ _ _ _ _, .inl ⟨rfl, rfl⟩⟩
  · exact ⟨g, h5.flat hf, .inr ⟨h1, h2⟩⟩
theorem Row.mk' {g : Nat} (F : Own C t w D g a c xs) (h1 : lo ≤ g) (hg : ¬ D g) (hD : ∀ k, D k → B k ∨ In lo w.heap.size k) : Row C t w B lo w.heap.size a c xs := by
  rcases F.row with ⟨h2, h3⟩ | ⟨h2, cur, cs, h3, h4⟩
  · exact ⟨.inl ⟨h2, h3, List.length_eq_zero_iff.1 (by have := F.cap; omega)⟩⟩
  · exact ⟨.inr ⟨g, D, h1, h3.lt, hg, hD, F⟩⟩
variable {n : Nat} {ops : Array Oper} {Q : Post} {e : Env} {rest l : List Oper} {o : Oper} {d : Nat} {T : Tab}
/-- something behind a row of one's own -/
theorem appendR {D' : Nat → Prop} {tx bytes e' : Nat} {z : Value} {s x : Operand} {v : Value} (F1 : Row C e' w B lo hi a c xs) (F2 : From P C tx w D' v ys) (hE : ElemT P t tx C.sz bytes z e')
    (ho : o.op = .call { callee := .builtin .append, args := #[s, x], argTypes := #[t, tx] }) (hs : evn n e s = some (.slice a xs.length c)) (hx : evn n e x = some v) (hg : o.guard = none) (hd : o.dst = some d)
    (hb : (xs.length + ys.length) * bytes ≤ 140737488355328) (hm : xs.length + ys.length ≤ maxLen) (hhi : hi ≤ w.heap.size) (hlo : lo ≤ hi) (hB : ∀ k, B k → k < lo) (hD' : ∀ k, D' k → B k ∨ In hi w.heap.size k)
    (K : ∀ a' c' w', Bl lo w w' → w'.heap.size ≤ w.heap.size + 1 → Row C e' w' B lo w'.heap.size a' c' (xs ++ ys) → VL P n ops Q rest (e.set d (.slice a' (xs ++ ys).length c')) w') : VL P n ops Q (o :: rest) e w := by
  have hsm : ∀ k, B k → k < w.heap.size := fun k h => by have := hB k h; omega
  rcases F1.ex with ⟨rfl, rfl, rfl⟩ | ⟨g, D, h1, h2, h3, h4, h5⟩
  · refine appendO (g := w.heap.size) (D := fun k => B k ∨ In hi w.heap.size k) (Own.nil C e' w _ _) (F2.mono hD') hE ho hs hx hg hd hb hm (fun h => h.elim (fun h => Nat.lt_irrefl _ (hsm _ h)) (fun h => Nat.lt_irrefl _ h.2)) ?_
    intro g' a' c' w' G hsz hg' hlt F
    have hge : g' = w.heap.size := by rcases hg' with h | h <;> exact h
    subst hge
    have hgr : Gr w w' := G.mono (fun k hk hl => by simp at hk; omega)
    have hsz2 := hgr.size
    exact K a' c' w' (Bl.gr hgr (by omega)) hsz (Row.mk' F (by omega) (fun h => h.elim (fun h => Nat.lt_irrefl _ (hsm _ h)) (fun h => Nat.lt_irrefl _ h.2)) (fun k h => h.imp id (fun h => ⟨Nat.le_trans hlo h.1, Nat.lt_of_lt_of_le h.2 hsz2⟩)))
  · have hD2 : ∀ k, (D k ∨ B k ∨ In hi w.heap.size k) → k < w.heap.size := fun k h => by
      rcases h with h | h | h
      · rcases h4 k h with h | h
        · exact hsm k h
        · have := h.2; omega
      · exact hsm k h
      · exact h.2
    have hng : ¬ (D g ∨ B g ∨ In hi w.heap.size g) := by
      rintro (h | h | h)
      · exact h3 h
      · have := hB g h; omega
      · have := h.1; omega
    refine appendO (g := g) (D := fun k => D k ∨ B k ∨ In hi w.heap.size k) (h5.mono fun _ h => .inl h) (F2.mono fun k h => .inr (hD' k h)) hE ho hs hx hg hd hb hm hng ?_
    intro g' a' c' w' G hsz hg' hlt F
    have hsz2 := G.size
    refine K a' c' w' (Bl.fr G h1 (by omega)) hsz (Row.mk' F (by rcases hg' with h | h <;> omega) (fun h6 => ?_) (fun k h => ?_))
    · rcases hg' with h | h
      · rw [h] at h6; exact hng h6
      · have := hD2 _ h6; omega
    · rcases h with h | h | h
      · exact (h4 k h).imp id fun h => ⟨h.1, Nat.lt_of_lt_of_le h.2 (Nat.le_trans hhi hsz2)⟩
      · exact .inl h
      · exact .inr ⟨Nat.le_trans hlo h.1, Nat.lt_of_lt_of_le h.2 hsz2⟩
end
section
variable {P : Program} {n : Nat} {Q : Post} {e : Env} {w : World}
/-- A loop: what holds at each round's head, with a measure that is named there. -/
theorem loopM {c : Code} (I : Nat → Env → World → Prop) (h₀ : ∃ m, I m e w)
    (round : ∀ m e w, I m e w → VC P n c (thn (fun e' w' => ∃ m', m' < m ∧ I m' e' w') Q) e w) : VC P n (.loop c) Q e w := by
  classical
  refine loop (fun e w => ∃ m, I m e w) (fun e w => if h : ∃ m, I m e w then Classical.choose (least h) else 0) h₀ ?_
  intro e w hI
  have hs := Classical.choose_spec (least hI)
  refine (round _ e w hs.1).mono ?_
  intro x e' w' hx
  cases x with
  | normal =>
    obtain ⟨m', hm, hI'⟩ := hx
    refine ⟨⟨m', hI'⟩, ?_⟩
    rw [dif_pos ⟨m', hI'⟩, dif_pos hI]
    exact Nat.lt_of_le_of_lt ((Classical.choose_spec (least ⟨m', hI'⟩)).2 _ hI') hm
  | _ => exact hx
end
theorem u8eq {a b : UInt8} : ((a.toNat : Int) = (b.toNat : Int)) ↔ a = b := ⟨fun h => UInt8.toNat_inj.1 (by omega), fun h => by rw [h]⟩
/-! ### Rules by the run alone, and what the drawn regions lacked -/
section
variable {P : Program} {n : Nat} {e : Env} {o : Oper} {T : Tab}
end
section
variable {P : Program} {n : Nat} {ops : Array Oper} {w : World} {S : Nat → Option (Value → World → Prop)} {Q : Env → World → Prop} {e : Env} {H : Hist} {q : Nat} {rest l : List Oper} {o : Oper} {d : Nat} {T : Tab} {α : Type} {C : Cod α}
theorem gB {A : Type} {x : Option A} (h : (o.guard.isNone && x.isNone) = true) : o.guard = none ∧ x = none := by simpa using h
theorem gaddM {t t' : Nat} {x y : Operand} {a b : Int} (ho : o.op = .binOp .add t x y t') (hx : evn n e x = some (.int .i64 a)) (hy : evn n e y = some (.int .i64 b)) (hg : (o.guard.isNone && (S q).isNone) = true) (hd : o.dst = some d) (h0 : -9223372036854775808 ≤ a + b) (h1 : a + b ≤ 9223372036854775807)
    (K : VG P n ops w S Q rest (q + 1) H (e.set d (.int .i64 (a + b)))) : VG P n ops w S Q (o :: rest) q H e := by
  refine gstep (gB hg).1 hd (gB hg).2 (fun _ _ => ?_) K
  simp only [execOp, ho, evn_eval hx, evn_eval hy]
  refine run_pure_value (bin1_run ?_)
  simp [bin1, bin2, wrap_in h0 h1]
theorem gsubM {t t' : Nat} {x y : Operand} {a b : Int} (ho : o.op = .binOp .sub t x y t') (hx : evn n e x = some (.int .i64 a)) (hy : evn n e y = some (.int .i64 b)) (hg : (o.guard.isNone && (S q).isNone) = true) (hd : o.dst = some d) (h0 : -9223372036854775808 ≤ a - b) (h1 : a - b ≤ 9223372036854775807)
    (K : VG P n ops w S Q rest (q + 1) H (e.set d (.int .i64 (a - b)))) : VG P n ops w S Q (o :: rest) q H e := by
  refine gstep (gB hg).1 hd (gB hg).2 (fun _ _ => ?_) K
  simp only [execOp, ho, evn_eval hx, evn_eval hy]
  refine run_pure_value (bin1_run ?_)
  simp [bin1, bin2, wrap_in h0 h1]
end
section
variable {P : Program} {n : Nat} {ops : Array Oper} {KC : World → Prop} {w : World} {Q' : Env → Prop} {e : Env} {rest l : List Oper} {o : Oper} {d : Nat} {T : Tab}
end
/-! ### What is known of a result behind a call in a drawn region -/
theorem In.mono_l {lo lo' hi : Nat} (h : lo' ≤ lo) : ∀ k, In lo hi k → In lo' hi k := In.sub h (Nat.le_refl _)
theorem Meets.s {P : Program} {k : Nat} {args : List Value} {w : World} {v : Value} (h : Meets P k args w (fun u w' => u = v ∧ w = w')) : Meets P k args w (fun u w' => u = v ∧ w' = w) := h.mono (by rintro u w' ⟨rfl, rfl⟩; exact ⟨rfl, rfl⟩)
theorem Sl.fl {α : Type} {C : Cod α} {w : World} {D : Nat → Prop} {a : Option Addr} {c : Nat} {xs : List α} (hf : Flat C) (hs : 0 < C.sz) (F : Sl C w D a c xs) : Sl C w (fun k => D k ∧ k < w.heap.size) a c xs :=
  ⟨F.cap, F.max, fun hn => by
    obtain ⟨b, o, h1, h2, h3⟩ := F.els hn
    obtain ⟨cs, h4, h5⟩ := h3 0 hn
    exact ⟨b, o, h1, ⟨h2, h5.lt (by rw [C.len h4]; exact hs)⟩, fun i hi => let ⟨cs, h6, h7⟩ := h3 i hi; ⟨cs, hf h6, h7⟩⟩⟩
theorem Sl.flb {w : World} {D : Nat → Prop} {a : Option Addr} {c : Nat} {xs : List UInt8} (F : Bytes w D a c xs) : Bytes w (fun k => D k ∧ k < w.heap.size) a c xs := F.fl flat_byte (by decide)
/-! ### x[:hi], x[lo:] -/
section
variable {P : Program} {n : Nat} {e : Env} {o : Oper} {T : Tab} {α : Type} {C : Cod α} {D : Nat → Prop} {a : Option Addr} {xs : List α} {w : World}
theorem cutL_run (hT : tabB P T = true) {t e' c : Nat} {x y : Operand} {k : IntKind} {j : Int} (F : Sl C w D a c xs) (ho : o.op = .slice t x none (some y) none) (ht : look T t = some (.sl e')) (hs : sizeT P e' = some C.sz)
    (hx : evn n e x = some (.slice a xs.length c)) (hy : evn n e y = some (.int k j)) (h0 : 0 ≤ j) (h1 : j ≤ xs.length) :
    (execOp (act n e).eval o).run P w = .ok (.value (.slice (addrCut a 0 c C.sz) (xs.take j.toNat).length c)) w := by
  have := cut_run (vl := none) (vh := some (.int k j)) (i := 0) (j := j) hT F ho ht hs hx rfl (by simp [opnE, hy]) rfl rfl (by omega) h0 h1
  simpa using this
theorem cutL_sl {c : Nat} {j : Int} (F : Sl C w D a c xs) (h0 : 0 ≤ j) (h1 : j ≤ xs.length) : Sl C w D (addrCut a 0 c C.sz) c (xs.take j.toNat) := by
  have hc := F.cap
  have F' := F.cut (l := 0) (h := j.toNat) (m := c) (by omega) (by omega) (by omega) (Nat.le_refl _)
  simpa using F'
theorem cutD_run (hT : tabB P T = true) {t e' c : Nat} {x y : Operand} {k : IntKind} {i : Int} (F : Sl C w D a c xs) (ho : o.op = .slice t x (some y) none none) (ht : look T t = some (.sl e')) (hs : sizeT P e' = some C.sz)
    (hx : evn n e x = some (.slice a xs.length c)) (hy : evn n e y = some (.int k i)) (h0 : 0 ≤ i) (h1 : i ≤ xs.length) :
    (execOp (act n e).eval o).run P w = .ok (.value (.slice (addrCut a i.toNat c C.sz) (xs.drop i.toNat).length (c - i.toNat))) w := by
  have := cut_run (vl := some (.int k i)) (vh := none) (i := i) (j := xs.length) hT F ho ht hs hx (by simp [opnE, hy]) rfl rfl rfl h0 h1 (Int.le_refl _)
  rw [List.take_of_length_le (by rw [List.length_drop]; omega)] at this
  exact this
theorem cutD_sl {c : Nat} {i : Int} (F : Sl C w D a c xs) (h0 : 0 ≤ i) (h1 : i ≤ xs.length) : Sl C w D (addrCut a i.toNat c C.sz) (c - i.toNat) (xs.drop i.toNat) := by
  have hc := F.cap
  have F' := F.cut (l := i.toNat) (h := xs.length) (m := c) (by omega) (Nat.le_refl _) hc (Nat.le_refl _)
  rw [List.take_of_length_le (by rw [List.length_drop]; omega)] at F'
  exact F'
variable {ops : Array Oper} {Q : Post} {rest : List Oper} {d : Nat} {KC : World → Prop} {Q' : Env → Prop} {S : Nat → Option (Value → World → Prop)} {Q'' : Env → World → Prop} {H : Hist} {q : Nat}
theorem cutL (hT : tabB P T = true) {t e' c : Nat} {x y : Operand} {k : IntKind} {j : Int} (F : Sl C w D a c xs) (ho : o.op = .slice t x none (some y) none) (ht : look T t = some (.sl e')) (hs : sizeT P e' = some C.sz)
    (hx : evn n e x = some (.slice a xs.length c)) (hy : evn n e y = some (.int k j)) (hg : o.guard = none) (hd : o.dst = some d) (h0 : 0 ≤ j) (h1 : j ≤ xs.length)
    (K : ∀ a', Sl C w D a' c (xs.take j.toNat) → VL P n ops Q rest (e.set d (.slice a' (xs.take j.toNat).length c)) w) : VL P n ops Q (o :: rest) e w := step hg hd (cutL_run hT F ho ht hs hx hy h0 h1) (K _ (cutL_sl F h0 h1))
theorem qcutD (hT : tabB P T = true) {t e' c : Nat} {x y : Operand} {k : IntKind} {i : Int} (F : Sl C w D a c xs) (ho : o.op = .slice t x (some y) none none) (ht : look T t = some (.sl e')) (hs : sizeT P e' = some C.sz)
    (hx : evn n e x = some (.slice a xs.length c)) (hy : evn n e y = some (.int k i)) (hg : o.guard = none) (hd : o.dst = some d) (h0 : 0 ≤ i) (h1 : i ≤ xs.length)
    (K : ∀ a' c', Sl C w D a' c' (xs.drop i.toNat) → VQ P n ops KC w Q' rest (e.set d (.slice a' (xs.drop i.toNat).length c'))) : VQ P n ops KC w Q' (o :: rest) e := qstep hg hd (fun _ g => cutD_run hT (F.gr g) ho ht hs hx hy h0 h1) (K _ _ (cutD_sl F h0 h1))
theorem gcutD (hT : tabB P T = true) {t e' c : Nat} {x y : Operand} {k : IntKind} {i : Int} (F : Sl C w D a c xs) (ho : o.op = .slice t x (some y) none none) (ht : look T t = some (.sl e')) (hs : sizeT P e' = some C.sz)
    (hx : evn n e x = some (.slice a xs.length c)) (hy : evn n e y = some (.int k i)) (hg : (o.guard.isNone && (S q).isNone) = true) (hd : o.dst = some d) (h0 : 0 ≤ i) (h1 : i ≤ xs.length)
    (K : ∀ a' c', Sl C w D a' c' (xs.drop i.toNat) → VG P n ops w S Q'' rest (q + 1) H (e.set d (.slice a' (xs.drop i.toNat).length c'))) : VG P n ops w S Q'' (o :: rest) q H e := gstep (gB hg).1 hd (gB hg).2 (fun _ h => cutD_run hT (F.gr h.1) ho ht hs hx hy h0 h1) (K _ _ (cutD_sl F h0 h1))
end
/-! ### Rows out of slices that are written out -/
section
variable {w w' : World} {α : Type} {C : Cod α} {k t lo hi c b : Nat} {B D : Nat → Prop} {a : Option Addr} {xs : List α} {cs : List Value}
theorem Row.ofCells (F : Cells w k cs t) (hR : Reps C w D xs cs) (hk : ¬ D k) (hD : ∀ j, D j → B j) (hm : xs.length ≤ maxLen) : Row C t w B k (k + 1) (some ⟨k, 0, none⟩) xs.length xs := by
  have hl := hR.len
  exact ⟨.inr ⟨k, D, Nat.le_refl _, Nat.lt_succ_self _, hk, fun j h => .inl (hD j h), ⟨Nat.le_refl _, hm, .inr ⟨rfl, cs, cs, F, hl, by rw [← hl, List.take_length], hR⟩⟩⟩⟩
theorem reps_byte : ∀ (xs : List UInt8), Reps Cod.byte w D xs (xs.map fun b => .int .u8 (b.toNat : Int))
  | [] => rfl
  | x :: xs => ⟨[_], xs.map _, rfl, rfl, reps_byte xs⟩
theorem rowOfB {xs : List UInt8} (F : Cells w k cs t) (h : cs = xs.map fun b => .int .u8 (b.toNat : Int)) (hm : Nat.ble xs.length 100000 = true) : Row Cod.byte t w None' k (k + 1) (some ⟨k, 0, none⟩) xs.length xs := by
  subst h
  exact Row.ofCells F (reps_byte (D := None') xs) (fun h => h) (fun _ h => h) (by have := Nat.le_of_ble_eq_true hm; simp only [maxLen]; omega)
theorem Row.bl (h : Row C t w B lo hi a c xs) (f : Bl b w w') (hn : (∀ k, B k → k < b) ∧ hi ≤ b) : Row C t w' B lo hi a c xs :=
  ⟨h.ex.imp id fun ⟨g, D, h1, h2, h3, h4, h5⟩ => ⟨g, D, h1, h2, h3, h4, h5.bl f ⟨by omega, fun k hk => (h4 k hk).elim (hn.1 k) (fun h => by have := h.2; omega)⟩⟩⟩
end
/-! ### Bytes as values; elements of a row of one's own -/
section
variable {w : World} {α : Type} {C : Cod α} {D : Nat → Prop} {g t c : Nat} {a : Option Addr} {xs : List α}
theorem Own.el (F : Own C t w D g a c xs) {i : Nat} (hi : i < xs.length) : ∃ cs, C.R w D xs[i] cs ∧ At w g (i * C.sz) cs := by
  rcases F.row with ⟨_, hc⟩ | ⟨_, cur, cs, h1, h2, h3, h4⟩
  · have := F.cap; omega
  · obtain ⟨c1, c2, c3, h5, h6, h7⟩ := h4.at_ i hi
    refine ⟨c2, h7, fun j u hu => ?_⟩
    have hj : j < c2.length := (List.getElem?_eq_some_iff.1 hu).1
    have := h1.at_ (i * C.sz + j) u (by
      have e : cur[i * C.sz + j]? = (cur.take (xs.length * C.sz))[i * C.sz + j]? := by
        rw [List.getElem?_take, if_pos]
        have l1 := congrArg List.length h5
        rw [← h3] at l1
        simp only [List.length_append, List.length_take] at l1
        omega
      rw [e, h3, h5, ← h6, List.getElem?_append_right (by omega), Nat.add_sub_cancel_left, List.getElem?_append_left hj]
      exact hu)
    rwa [Nat.zero_add] at this
theorem Row.back (F : Own C t w None' g a c xs) {lo hi : Nat} (h1 : lo ≤ g) (h2 : g < hi) : Row C t w None' lo hi a c xs := Row.ofOwn F h1 h2 (fun h => h) (fun _ h => h.elim)
end
section
variable {P : Program} {n : Nat} {ops : Array Oper} {Q : Post} {e : Env} {w : World} {rest : List Oper} {o : Oper} {α : Type} {C : Cod α}
end
/-! ### New blocks in drawn regions -/
def newC (lo : Nat) (cs : List Value) (t : Nat) (v : Value) (w : World) : Prop := ∃ k, v = .pointer (some ⟨k, 0, none⟩) ∧ lo ≤ k ∧ k < w.heap.size ∧ Cells w k cs t
theorem newC_mono {lo t : Nat} {cs : List Value} : Mono1 (newC lo cs t) := fun _ _ _ g ⟨k, h1, h2, h3, h4⟩ => ⟨k, h1, h2, Nat.lt_of_lt_of_le h3 g.size, h4.gr g⟩
theorem newC_get {lo t k : Nat} {cs : List Value} {w : World} (h : newC lo cs t (.pointer (some ⟨k, 0, none⟩)) w) : Cells w k cs t := by
  obtain ⟨_, he, _, _, F⟩ := h; cases he; exact F
theorem newC_lt {lo t k : Nat} {cs : List Value} {w : World} (h : newC lo cs t (.pointer (some ⟨k, 0, none⟩)) w) : lo ≤ k ∧ k < w.heap.size := by
  obtain ⟨_, he, h1, h2, _⟩ := h; cases he; exact ⟨h1, h2⟩
section
variable {P : Program} {n : Nat} {ops : Array Oper} {w : World} {S : Nat → Option (Value → World → Prop)} {Q : Env → World → Prop} {e : Env} {H : Hist} {q : Nat} {rest l : List Oper} {o : Oper} {d : Nat}
theorem galloc {t lo : Nat} {z : Value} (hz : zeroT P t = some z) (hlo : lo ≤ w.heap.size) (ho : o.op = .alloc t) (hg : o.guard = none) (hd : o.dst = some d) (hS : S q = some (newC lo (cellsL z) t))
    (K : ∀ k, VG P n ops w S Q rest (q + 1) (H.add q (newC lo (cellsL z) t (.pointer (some ⟨k, 0, none⟩)))) (e.set d (.pointer (some ⟨k, 0, none⟩)))) : VG P n ops w S Q (o :: rest) q H e := by
  refine ggrow hg hd hS (fun w' hw' => .inl ⟨.pointer (some ⟨w'.heap.size, 0, none⟩), w'.alloc (.cells (cellsL z).toArray t), ?_, gr_alloc _ _, ⟨_, rfl, Nat.le_trans hlo hw'.1.size, by simp, cells_new _ _ _⟩⟩) ?_
  · simp only [execOp, ho]
    simp [Instr.alloc, run_zero hz, newVar, newRow, newObj, Sem.run, cellsL_eq]
  · rintro v w1 g1 g2 ⟨k, rfl, _⟩
    exact K k
end
def noByte : List Value → Bool
  | [] => true
  | .int .u8 _ :: _ => false
  | _ :: r => noByte r
theorem noByte_at : ∀ {cs : List Value} {j : Nat} {b : Int}, noByte cs = true → cs[j]? = some (.int .u8 b) → False
  | [], j, b, _, h => by simp at h
  | c :: r, 0, b, h, hj => by simp at hj; subst hj; simp [noByte] at h
  | c :: r, j + 1, b, h, hj => by
    refine noByte_at (cs := r) (j := j) (b := b) ?_ (by simpa using hj)
    unfold noByte at h
    split at h <;> simp_all
theorem Sl.apart {w : World} {D : Nat → Prop} {a : Option Addr} {c k t : Nat} {xs : List UInt8} {cs : List Value} (F : Bytes w D a c xs) (Fk : Cells w k cs t) (h : noByte cs = true) : Bytes w (fun j => D j ∧ j ≠ k) a c xs :=
  ⟨F.cap, F.max, fun hn => by
    obtain ⟨b, o, h1, h2, h3⟩ := F.els hn
    refine ⟨b, o, h1, ⟨h2, ?_⟩, h3⟩
    rintro rfl
    obtain ⟨cs', h4, h5⟩ := h3 0 hn
    have h4' : cs' = [.int .u8 ((xs[0].toNat : Nat) : Int)] := h4
    subst h4'
    have h6 := h5 0 _ rfl
    rw [Cells] at Fk
    simp only [World.cell?, Fk] at h6
    simp at h6
    exact noByte_at h h6⟩
section
variable {P : Program} {n : Nat} {ops : Array Oper} {Q : Post} {e : Env} {w : World} {rest : List Oper} {o : Oper} {α : Type} {C : Cod α} {T : Tab} {d : Nat}
end
theorem S_lit {a b : List UInt8} : (S a = ⟨b.toArray⟩) ↔ a = b := S_inj
theorem S_lit2 {a b : List UInt8} : ((⟨b.toArray⟩ : ByteArray) = S a) ↔ b = a := S_inj
/-! ### '[]byte("..")': the literal's row is marked -/
theorem freeze_at (w : World) (k n : Nat) (cs : Array Value) (t : Nat) (h : w.heap[k]? = some (.cells cs t (0, 0))) (hn : n = cs.size) : Fr [k] w (w.freeze ⟨k, n, none⟩ 1) ∧ (w.freeze ⟨k, n, none⟩ 1).heap.size = w.heap.size ∧ At (w.freeze ⟨k, n, none⟩ 1) k 0 cs.toList := by
  subst hn
  have hk : k < w.heap.size := (Array.getElem?_eq_some_iff.1 h).1
  unfold World.freeze
  rw [if_neg (by decide)]
  refine ⟨⟨rfl, rfl, rfl, by simp, fun i hi hne => ?_⟩, by simp, fun j u hu => ?_⟩
  · have hne' : k ≠ i := by simpa using fun h => hne (by simp [h])
    simp [Array.getElem?_modify, hne']
  · have hg : w.heap[k] = .cells cs t (0, 0) := by rw [Array.getElem?_eq_getElem hk] at h; exact Option.some.inj h
    have hu' : cs[j]? = some u := by simpa using hu
    simp [World.cell?, hk, Array.getElem_modify, hg, hu']
section
variable {P : Program} {n : Nat} {ops : Array Oper} {Q : Post} {e : Env} {w : World} {rest : List Oper} {o : Oper} {d : Nat}
end
section
variable {P : Program} {n : Nat} {ops : Array Oper} {Q : Post} {e : Env} {w : World} {rest : List Oper} {o o2 : Oper} {d d2 : Nat} {T : Tab}
theorem mkMark (hT : tabB P T = true) {t e' len sz : Nat} {parts : Array (Nat × Operand)} {cs : List Value} {z : Value} {xs : List UInt8} (hz : zeroT P e' = some z) (ho : o.op = .buildSlice t len parts) (ht : look T t = some (.sl e')) (hs : sizeT P e' = some sz) (hzs : Nat.beq (cellsL z).length sz = true)
    (hp : partsL n e sz 0 parts.toList = some cs) (hl : Nat.beq parts.toList.length len = true) (hg : o.guard = none) (hd : o.dst = some d) (hb : Nat.ble (len * sz) 16777216 = true)
    (hu : P.underlying e' = some (.int .u8)) (ho2 : o2.op = .convert t t (.tmp d)) (hg2 : o2.guard = none) (hd2 : o2.dst = some d2) (hdn : Nat.blt d n = true) (hx : cs = xs.map fun b => .int .u8 (b.toNat : Int)) (hlen : Nat.beq len xs.length = true)
    (K : ∀ k w', w.heap.size = k → w'.heap.size = k + 1 → Gr w w' → Bytes w' (In w.heap.size w'.heap.size) (some ⟨k, 0, none⟩) xs.length xs → VL P n ops Q rest ((e.set d (.slice (some ⟨k, 0, none⟩) len len)).set d2 (.slice (some ⟨k, 0, none⟩) xs.length xs.length)) w') : VL P n ops Q (o :: o2 :: rest) e w := by
  have hlen' := Nat.eq_of_beq_eq_true hlen
  have hmx : xs.length ≤ maxLen := by
    have h1 := Nat.le_of_ble_eq_true hb
    have h2 := partsL_len hp
    rw [Nat.eq_of_beq_eq_true hl] at h2
    rw [← h2, hx, List.length_map] at h1
    simp only [maxLen]; omega
  refine mkSlice hT hz ho ht hs hzs hp hl hg hd hb fun k w1 hk hk1 G F => ?_
  subst hx
  obtain ⟨f1, f2, f3⟩ := freeze_at w1 k (xs.map fun b => Value.int .u8 (b.toNat : Int)).toArray.size _ e' F rfl
  have hG : Gr w (w1.freeze ⟨k, (xs.map fun b => Value.int .u8 (b.toNat : Int)).toArray.size, none⟩ 1) := Gr.new G f1 (by simp; omega)
  have hsh : w1.shape? k = some (e', (xs.map fun b => Value.int .u8 (b.toNat : Int)).toArray.size) := by unfold World.shape?; rw [F]
  have hev : evn n (e.set d (.slice (some ⟨k, 0, none⟩) len len)) (.tmp d) = some (.slice (some ⟨k, 0, none⟩) len len) := by simp [evn, hdn, set_same]
  refine step hg2 hd2 (w' := w1.freeze ⟨k, (xs.map fun b => Value.int .u8 (b.toNat : Int)).toArray.size, none⟩ 1) ?_ (K k _ hk (by rw [f2]; exact hk1) hG ?_)
  · simp only [execOp, ho2, evn_eval hev]
    refine run_value ?_
    rw [← hlen']
    simp only [convert, run_underlying (look_sl hT ht), run_underlying hu, markStringish, Sem.run_bind]
    simp [hsh, run_underlying hu]
  · refine (reps_byte xs).sl (D := In w.heap.size _) (fun j u hu => ?_) ⟨by omega, by rw [f2]; omega⟩ (Nat.le_refl _) hmx
    simpa using f3 j u (by simpa using hu)
end
/-! ### Drawn regions with calls that WRITE: the calls (those of 'S') come one behind another in every order; all else is still in every world of the class 'C' -/
section
variable {P : Program} {ops : Array Oper} {md : Region.Mode} {C : World → Prop} {S : Nat → Bool} {Q : Act → World → Prop}
/-- hands back something, and stays in the class -/
def outc (P : Program) (o : Oper) (a : Act) (w : World) (Φ : Value → World → Prop) : Prop := match (execOp a.eval o).run P w with
  | .ok (.value v) w' => Φ v w'
  | .ok .skip w' => Φ undef w'
  | .ok (.enter f args) w' => Calls P f args w' fun e w'' => ∃ v, e = .returned v ∧ Φ v w''
  | .ok (.row r args) w' => Rows P r args w' Φ
  | _ => False
def runs1 (P : Program) (o : Oper) (a : Act) (w : World) (C : World → Prop) (p : Value → World → Prop) : Prop := outc P o a w fun v w' => C w' ∧ p v w'
def mOp (P : Program) (ops : Array Oper) (C : World → Prop) (S : Nat → Bool) (i : Nat) (K : (World → Prop) → Act → Prop) (N : World → Prop) (a : Act) : Prop :=
  match ops[i]? with
  | none => K N a
  | some o => if Region.wanted o (yielded ops a.tmps) then
      (match S i with
       | false => ∃ v, (∀ w, C w → still1 P o a w v) ∧ K N (a.put o.dst v)
       | true => ∃ p : Value → World → Prop, (∀ w, C w → N w → runs1 P o a w C p) ∧ ∀ v, K (p v) (a.put o.dst v))
    else K N (a.put o.dst undef)
def InhM (C N : World → Prop) : Prop := ∃ w, C w ∧ N w
def wpAnyM (P : Program) (md : Region.Mode) (ops : Array Oper) (C : World → Prop) (S : Nat → Bool) (N : Nat) (E : Array Bool → Prop) (Q : Act → World → Prop) : Nat → Array Bool → (World → Prop) → Act → Prop
  | 0, listed, H, a => InhM C H → E listed ∧ ∀ w, C w → H w → Q a w
  | f + 1, listed, H, a => InhM C H → Region.ready md ops listed ≠ [] ∧
    ∀ i ∈ Region.ready md ops listed, i < N ∧ mOp P ops C S i (wpAnyM P md ops C S N E Q f (listed.setIfInBounds i true)) H a
/-- of two calls one waits for the other -/
def chainB (md : Region.Mode) (ops : Array Oper) (S : Nat → Bool) (N : Nat) : Bool := (List.range N).all fun i => !(S i) || (List.range N).all fun j => !(S j) || (Nat.beq i j || (depB md ops ops.size j i || depB md ops ops.size i j))
theorem chain_ready {N i j : Nat} {listed : Array Bool} (hB : chainB md ops S N = true) (hc : Closed md ops listed) (hi : i < N) (hj : j < N) (h1 : S i = true) (h2 : S j = true) (hir : i ∈ Region.ready md ops listed) (hjr : j ∈ Region.ready md ops listed) : i = j := by
  simp only [chainB, List.all_eq_true, List.mem_range, Bool.or_eq_true, Bool.not_eq_true'] at hB
  have h3 := ((hB i hi).resolve_left (by simp [h1]) j hj).resolve_left (by simp [h2])
  have no : ∀ {x y : Nat}, x ∈ Region.ready md ops listed → y ∈ Region.ready md ops listed → depB md ops ops.size y x = true → False := fun {x y} hx hy h => by
    have := dep_listed hc _ _ _ h (.inr hy)
    have h4 := (mem_ready.1 hx).1
    rw [getD_both h4] at this
    cases this
  rcases h3 with h3 | h3 | h3
  · exact Nat.eq_of_beq_eq_true h3
  · exact (no hir hjr h3).elim
  · exact (no hjr hir h3).elim
theorem runs1_put {oi oj : Oper} {v : Value} {a : Act} {w : World} {p : Value → World → Prop} (hsj : ∀ cs b, oj.op ≠ .select cs b) (h : ∀ d, oi.dst = some d → d ∉ oj.looksAt ops) : runs1 P oj (a.put oi.dst v) w C p ↔ runs1 P oj a w C p := by
  unfold runs1 outc; rw [execOp_put oj hsj a oi.dst v h]
theorem runs1_ex {o : Oper} {a : Act} {w : World} {p : Value → World → Prop} (h : runs1 P o a w C p) : ∃ v w', C w' ∧ p v w' := by
  unfold runs1 outc at h
  split at h
  · exact ⟨_, _, h⟩
  · exact ⟨_, _, h⟩
  · obtain ⟨e, w', fr, ⟨v, _, h1, h2⟩, _⟩ := h []
    exact ⟨v, w', h1, h2⟩
  · obtain ⟨v, w', h, _⟩ := h default []
    exact ⟨v, w', h⟩
  · exact h.elim
theorem wpAnyM_first {N : Nat} {E : Array Bool → Prop} {i : Nat} {oi : Oper} (hCh : chainB md ops S N = true) (hE : ∀ listed, E listed → ∀ j ∈ Region.ready md ops listed, N ≤ j) (hW : ∀ listed, HeadInv md ops N listed → ∀ i, i < N → listed.getD i true = false → ∀ j ∈ Region.ready md ops listed, j < N) (hiN : i < N) (hi : ops[i]? = some oi) (hsel : ∀ (j : Nat) (o : Oper) cs b, ops[j]? = some o → o.op ≠ .select cs b) :
    ∀ (fuel : Nat) (listed : Array Bool) (H : World → Prop) (a : Act), HeadInv md ops N listed →
      (∀ j oj, ops[j]? = some oj → j ≠ i → listed.getD j true = false → (∀ e ∈ oj.after, Region.binds md e = true → e.on ≠ i) → oi.apart ops oj = true) →
      i ∈ Region.ready md ops listed → mOp P ops C S i (wpAnyM P md ops C S N E Q fuel (listed.setIfInBounds i true)) H a → wpAnyM P md ops C S N E Q (fuel + 1) listed H a := by
  have hsi := fun cs b => hsel i oi cs b hi
  intro fuel
  induction fuel with
  | zero =>
    intro listed H a hc hfree hr G inh
    refine ⟨fun h => (by rw [h] at hr; cases hr), fun j hj => ?_⟩
    have hjN : j < N := hW listed hc i hiN (mem_ready.1 hr).1 j hj
    refine ⟨hjN, ?_⟩
    by_cases hji : j = i
    · subst hji; exact G
    · exfalso
      have hjr := ready_mono hj hji
      unfold mOp at G
      simp only [hi] at G
      split at G
      · split at G
        · obtain ⟨v, _, h2⟩ := G
          have := hE _ (h2 inh).1 j hjr; omega
        · obtain ⟨p, h1, h2⟩ := G
          obtain ⟨w, hw1, hw2⟩ := inh
          obtain ⟨v, w', g, hp⟩ := runs1_ex (h1 w hw1 hw2)
          have := (h2 v ⟨w', g, hp⟩).1
          have := hE _ this j hjr; omega
      · have := hE _ (G inh).1 j hjr; omega
  | succ fuel ih =>
    intro listed H a hc hfree hr G inh
    refine ⟨fun h => (by rw [h] at hr; cases hr), fun j hj => ?_⟩
    have hjN : j < N := hW listed hc i hiN (mem_ready.1 hr).1 j hj
    refine ⟨hjN, ?_⟩
    by_cases hji : j = i
    · subst hji; exact G
    · have hjr := ready_mono hj hji
      have hir := ready_mono hr (Ne.symm hji)
      obtain ⟨hjun, oj, hoj, hall⟩ := mem_ready.1 hj
      have hiun := (mem_ready.1 hr).1
      have hnot : ∀ e ∈ oj.after, Region.binds md e = true → e.on ≠ i := fun e he hb heq => by
        have h1 := hall e he hb
        rw [heq, getD_both hiun] at h1
        cases h1
      have hsj := fun cs b => hsel j oj cs b hoj
      obtain ⟨a1, a2, a3⟩ := Oper.apart_spec (hfree j oj hoj hji hjun hnot)
      have hc2 := hc.set hj hjN
      have hfree' : ∀ k ok, ops[k]? = some ok → k ≠ i → (listed.setIfInBounds j true).getD k true = false →
          (∀ e ∈ ok.after, Region.binds md e = true → e.on ≠ i) → oi.apart ops ok = true := fun k ok hk hki hun hno => by
        refine hfree k ok hk hki ?_ hno
        by_cases hjk : j = k
        · subst hjk; exact hjun
        · rw [getD_set_ne true hjk] at hun; exact hun
      have hcomm := Array.setIfInBounds_comm (xs := listed) true true (Ne.symm hji)
      obtain ⟨w, hw1, hw2⟩ := inh
      have inh : InhM C H := ⟨w, hw1, hw2⟩
      unfold mOp at G ⊢
      simp only [hi] at G
      simp only [hoj]
      by_cases hwi : Region.wanted oi (yielded ops a.tmps) = true
      · simp only [hwi, if_true] at G
        cases hs : S i with
        | false =>
          simp only [hs] at G
          obtain ⟨v, hv, hG⟩ := G
          have h1 := ((hG inh).2 j hjr).2
          unfold mOp at h1
          simp only [hoj, wanted_put oj a oi.dst v a1] at h1
          have base : ∀ (H' : World → Prop) (u : Value), wpAnyM P md ops C S N E Q fuel ((listed.setIfInBounds i true).setIfInBounds j true) H' ((a.put oi.dst v).put oj.dst u) → wpAnyM P md ops C S N E Q (fuel + 1) (listed.setIfInBounds j true) H' (a.put oj.dst u) := by
            intro H' u hk
            refine ih _ _ _ hc2 hfree' hir ?_
            unfold mOp
            simp only [hi, wanted_put oi a oj.dst u a3, hwi, if_true, hs]
            refine ⟨v, fun w hw => (still1_put hsi a3).2 (hv w hw), ?_⟩
            rw [← hcomm, ← Act.put_comm a v u a2]; exact hk
          split
          · rename_i hwj
            simp only [hwj, if_true] at h1
            cases hsj2 : S j with
            | false =>
              simp only [hsj2] at h1
              obtain ⟨u, hu, hk⟩ := h1
              exact ⟨u, fun w hw => (still1_put hsj a1).1 (hu w hw), base H u hk⟩
            | true =>
              simp only [hsj2] at h1
              obtain ⟨q, hq, hk⟩ := h1
              exact ⟨q, fun w hw hn => (runs1_put hsj a1).1 (hq w hw hn), fun u => base (q u) u (hk u)⟩
          · rename_i hwj
            simp only [hwj] at h1
            exact base H undef h1
        | true =>
          simp only [hs] at G
          obtain ⟨p, hg, hG⟩ := G
          obtain ⟨v0, w', g, hp⟩ := runs1_ex (hg w hw1 hw2)
          have h1 : ∀ v, InhM C (p v) → mOp P ops C S j (wpAnyM P md ops C S N E Q fuel ((listed.setIfInBounds i true).setIfInBounds j true)) (p v) (a.put oi.dst v) := fun v hv => ((hG v hv).2 j hjr).2
          unfold mOp at h1
          simp only [hoj, wanted_put oj a oi.dst _ a1] at h1
          have base : ∀ (u : Value), (∀ v, InhM C (p v) → wpAnyM P md ops C S N E Q fuel ((listed.setIfInBounds i true).setIfInBounds j true) (p v) ((a.put oi.dst v).put oj.dst u)) → wpAnyM P md ops C S N E Q (fuel + 1) (listed.setIfInBounds j true) H (a.put oj.dst u) := by
            intro u hk
            refine ih _ _ _ hc2 hfree' hir ?_
            unfold mOp
            simp only [hi, wanted_put oi a oj.dst u a3, hwi, if_true, hs]
            refine ⟨p, fun w hw hn => (runs1_put hsi a3).2 (hg w hw hn), fun v => ?_⟩
            rw [← hcomm, ← Act.put_comm a v u a2]
            cases fuel with
            | zero => intro hin; exact hk v hin hin
            | succ fuel => intro hin; exact hk v hin hin
          split
          · rename_i hwj
            simp only [hwj, if_true] at h1
            cases hsj2 : S j with
            | false =>
              simp only [hsj2] at h1
              obtain ⟨u, hu, _⟩ := h1 v0 ⟨w', g, hp⟩
              have hu' : ∀ w, C w → still1 P oj a w u := fun w hw => (still1_put hsj a1).1 (hu w hw)
              refine ⟨u, hu', base u fun v hv => ?_⟩
              obtain ⟨u2, hu2, hk⟩ := h1 v hv
              have : u2 = u := still1_unique ((still1_put hsj a1).1 (hu2 w hw1)) (hu' w hw1)
              subst this
              exact hk
            | true => exact absurd (chain_ready hCh hc.closed hjN hiN hsj2 hs hj hr) hji
          · rename_i hwj
            simp only [hwj] at h1
            exact base undef fun v hv => h1 v hv
      · simp only [hwi] at G
        have h1 := ((G inh).2 j hjr).2
        unfold mOp at h1
        simp only [hoj, wanted_put oj a oi.dst undef a1] at h1
        have base : ∀ (H' : World → Prop) (u : Value), wpAnyM P md ops C S N E Q fuel ((listed.setIfInBounds i true).setIfInBounds j true) H' ((a.put oi.dst undef).put oj.dst u) → wpAnyM P md ops C S N E Q (fuel + 1) (listed.setIfInBounds j true) H' (a.put oj.dst u) := by
          intro H' u hk
          refine ih _ _ _ hc2 hfree' hir ?_
          unfold mOp
          simp only [hi, wanted_put oi a oj.dst u a3, hwi]
          rw [← hcomm]
          simp only [Bool.false_eq_true, if_false]
          rw [← Act.put_comm a undef u a2]; exact hk
        split
        · rename_i hwj
          simp only [hwj, if_true] at h1
          cases hsj2 : S j with
          | false =>
            simp only [hsj2] at h1
            obtain ⟨u, hu, hk⟩ := h1
            exact ⟨u, fun w hw => (still1_put hsj a1).1 (hu w hw), base H u hk⟩
          | true =>
            simp only [hsj2] at h1
            obtain ⟨q, hq, hk⟩ := h1
            exact ⟨q, fun w hw hn => (runs1_put hsj a1).1 (hq w hw hn), fun u => base (q u) u (hk u)⟩
        · rename_i hwj
          simp only [hwj] at h1
          exact base H undef h1
/-- the walk in the order of the text -/
def wpLM (P : Program) (ops : Array Oper) (C : World → Prop) (S : Nat → Bool) (Q : Act → World → Prop) : List Oper → Nat → (World → Prop) → Act → Prop
  | [], _, H, a => ∀ w, C w → H w → Q a w
  | o :: l, k, H, a => if Region.wanted o (yielded ops a.tmps) then
      (match S k with
       | false => ∃ v, (∀ w, C w → still1 P o a w v) ∧ wpLM P ops C S Q l (k + 1) H (a.put o.dst v)
       | true => ∃ p : Value → World → Prop, (∀ w, C w → H w → runs1 P o a w C p) ∧ ∀ v w1, C w1 → p v w1 → wpLM P ops C S Q l (k + 1) (p v) (a.put o.dst v))
    else wpLM P ops C S Q l (k + 1) H (a.put o.dst undef)
theorem wpAnyM_lex {N : Nat} {E : Array Bool → Prop} {E0 : Nat → Array Bool → Bool} (hCh : chainB md ops S N = true) (hE0 : ∀ listed, E0 N listed = true → E listed) (hE : ∀ listed, E listed → ∀ j ∈ Region.ready md ops listed, N ≤ j) (hW : ∀ listed, HeadInv md ops N listed → ∀ i, i < N → listed.getD i true = false → ∀ j ∈ Region.ready md ops listed, j < N)
    (hs : Region.noSelect ops = true) : ∀ (l : List Oper) (k : Nat) (listed : Array Bool) (H : World → Prop) (a : Act), (∀ j, j < l.length → l[j]? = ops[k + j]?) → k + l.length = N → HeadInv md ops N listed →
    lexG md ops E0 l.length k listed = true → wpLM P ops C S Q l k H a → wpAnyM P md ops C S N E Q l.length listed H a
  | [], k, listed, _, _, _, hk, _, hB, h => fun _ => by
    have hkN : k = N := by simpa using hk
    subst hkN
    exact ⟨hE0 _ (by simpa [lexG] using hB), h⟩
  | o :: l, k, listed, H, a, hl, hk, hc, hB, h => by
    have h0 : ops[k]? = some o := by simpa using (hl 0 (by simp)).symm
    simp only [List.length_cons, lexG, Bool.and_eq_true] at hB
    obtain ⟨⟨hr, hf⟩, hB'⟩ := hB
    have hr' : k ∈ Region.ready md ops listed := by simpa using hr
    have hkN : k < N := by simp only [List.length_cons] at hk; omega
    have hk' : k + 1 + l.length = N := by simp only [List.length_cons] at hk; omega
    have hl' : ∀ j, j < l.length → l[j]? = ops[k + 1 + j]? := fun j hj => by have := hl (j + 1) (by simp; omega); simpa [Nat.add_assoc, Nat.add_comm 1 j] using this
    refine wpAnyM_first hCh hE hW hkN h0 (Region.noSelect_spec hs) l.length listed H a hc (Region.free_spec h0 hf) hr' ?_
    unfold wpLM at h
    unfold mOp
    simp only [h0]
    split
    · rename_i hw
      simp only [hw, if_true] at h
      cases hsk : S k with
      | false =>
        simp only [hsk] at h
        obtain ⟨v, h1, h2⟩ := h
        exact ⟨v, h1, wpAnyM_lex hCh hE0 hE hW hs l (k + 1) _ _ _ hl' hk' (hc.set hr' hkN) hB' h2⟩
      | true =>
        simp only [hsk] at h
        obtain ⟨p, h1, h2⟩ := h
        refine ⟨p, h1, fun v => ?_⟩
        have hgo : InhM C (p v) → wpAnyM P md ops C S N E Q l.length (listed.setIfInBounds k true) (p v) (a.put o.dst v) := fun ⟨w1, g1, g2⟩ =>
          wpAnyM_lex hCh hE0 hE hW hs l (k + 1) _ _ _ hl' hk' (hc.set hr' hkN) hB' (h2 v w1 g1 g2)
        cases l with
        | nil => intro hin; exact hgo hin hin
        | cons o' l' => intro hin; exact hgo hin hin
    · rename_i hw
      simp only [hw] at h
      exact wpAnyM_lex hCh hE0 hE hW hs l (k + 1) _ _ _ hl' hk' (hc.set hr' hkN) hB' h
theorem wp_of_runs1 {o : Oper} {a : Act} {w : World} {p : Value → World → Prop} {K : Act → World → Prop} {Q' : Exit → Act → World → Prop} (h : runs1 P o a w C p) (hK : ∀ v w', C w' → p v w' → K (a.put o.dst v) w') : o.wp P a w K Q' := by
  unfold Oper.wp
  unfold runs1 outc at h
  split at h
  · rename_i h0; rw [h0]; exact hK _ _ h.1 h.2
  · rename_i h0; rw [h0]; exact hK _ _ h.1 h.2
  · rename_i h0; rw [h0]; exact h.mono fun e w' ⟨v, he, g, hp⟩ => by subst he; exact hK _ _ g hp
  · rename_i h0; rw [h0]; exact h.mono fun v w' ⟨g, hp⟩ => hK _ _ g hp
  · exact h.elim
theorem wpAny_of_M {N g : Nat} {E : Array Bool → Prop} {Q' : Exit → Act → World → Prop} (hQ : ∀ listed a w, E listed → Q a w → wpAny P md ops Q' g listed a w) : ∀ (fuel : Nat) (listed : Array Bool) (H : World → Prop) (a : Act) (w : World), C w → H w →
    wpAnyM P md ops C S N E Q fuel listed H a → wpAny P md ops Q' (fuel + g) listed a w
  | 0, _, _, _, w, cw, hw, h => by rw [Nat.zero_add]; exact hQ _ _ _ (h ⟨w, cw, hw⟩).1 ((h ⟨w, cw, hw⟩).2 w cw hw)
  | fuel + 1, listed, H, a, w, cw, hw, h => by
    have h1 := h ⟨w, cw, hw⟩
    rw [show fuel + 1 + g = (fuel + g) + 1 by omega]
    refine ⟨fun h0 => absurd h0 h1.1, fun i hi => ?_⟩
    have h2 := (h1.2 i hi).2
    unfold mOp at h2
    unfold wpOp
    split
    · rename_i ho; simp only [ho] at h2; exact wpAny_of_M hQ fuel _ _ _ _ cw hw h2
    · rename_i o ho
      simp only [ho] at h2
      split
      · rename_i hwn
        simp only [hwn, if_true] at h2
        refine .inl ?_
        cases hsk : S i with
        | false =>
          simp only [hsk] at h2
          obtain ⟨v, h3, h4⟩ := h2
          exact wp_of_still1 (h3 w cw) (wpAny_of_M hQ fuel _ _ _ _ cw hw h4)
        | true =>
          simp only [hsk] at h2
          obtain ⟨p, h3, h4⟩ := h2
          exact wp_of_runs1 (h3 w cw hw) fun v w' g' hp => wpAny_of_M hQ fuel _ _ _ _ g' hp (h4 v)
      · rename_i hwn
        simp only [hwn] at h2
        exact wpAny_of_M hQ fuel _ _ _ _ cw hw h2
end
section
variable {P : Program} {n : Nat} {ops : Array Oper} {w : World} {C : World → Prop} {S : Nat → Bool} {Q : Env → World → Prop} {e : Env} {H : World → Prop} {q : Nat} {rest l : List Oper} {o : Oper} {d : Nat} {T : Tab}
def VM (P : Program) (n : Nat) (ops : Array Oper) (C : World → Prop) (S : Nat → Bool) (Q : Env → World → Prop) (l : List Oper) (k : Nat) (H : World → Prop) (e : Env) : Prop :=
  wpLM P ops C S (fun a w' => ∃ e', a = act n e' ∧ Q e' w') l k H (act n e)
theorem drawM {id : Nat} {ops : Array Oper} {Q : Post} (C : World → Prop) (S : Nat → Bool) (hC0 : ∀ w', Gr w w' → C w') (hm : P.follows .mixedOrders = true) (hB : Region.lexB .any ops = true) (hS : chainB .any ops S ops.size = true) (h : VM P n ops C S (fun e' w' => Q .normal e' w') ops.toList 0 (Gr w) e) : VC P n (.region id ops true) Q e w := by
  unfold VC
  simp only [Region.lexB, Bool.and_eq_true] at hB
  refine wp_region_any hm ?_
  have hE : ∀ listed, Region.ready .any ops listed = [] → ∀ j ∈ Region.ready .any ops listed, ops.size ≤ j := fun listed h j hj => by rw [h] at hj; cases hj
  have hW : ∀ listed, HeadInv .any ops ops.size listed → ∀ i, i < ops.size → listed.getD i true = false → ∀ j ∈ Region.ready .any ops listed, j < ops.size := fun listed _ i _ _ j hj => by
    obtain ⟨_, o, ho, _⟩ := mem_ready.1 hj
    exact (Array.getElem?_eq_some_iff.1 ho).1
  have hg := wpAnyM_lex (E := fun l => Region.ready .any ops l = []) (E0 := fun _ l => (Region.ready .any ops l).isEmpty) hS (fun l h => by simpa using h) hE hW hB.1 ops.toList 0 (Array.replicate ops.size false) (Gr w) (act n e) (by simp) (by simp) (head0 _ _ _) (by rw [← lexG_from]; simpa using hB.2) h
  have := wpAny_of_M (g := 0) (Q' := lift n Q) (fun l a w h1 h2 => ⟨h1, h2⟩) _ _ _ _ w.drew (hC0 _ (gr_drew w)) (gr_drew w) hg
  simpa using this
theorem drawMT {id : Nat} {l : List Oper} {Q : Post} (N : Nat) (C : World → Prop) (S : Nat → Bool) (hC0 : ∀ w', Gr w w' → C w') (hm : P.follows .mixedOrders = true) (hB : Region.lexTailB .any l.toArray N = true) (hS : chainB .any l.toArray S N = true)
    (h : VM P n l.toArray C S (fun e' w' => VL P n l.toArray Q (l.drop N) e' w') (l.take N) 0 (Gr w) e) : VC P n (.region id l.toArray true) Q e w := by
  unfold VC
  simp only [Region.lexTailB, Bool.and_eq_true, decide_eq_true_eq] at hB
  obtain ⟨⟨⟨⟨hsel, hn⟩, hs⟩, hc⟩, hlex⟩ := hB
  have hn' : N < l.length := by simpa using hn
  have htl : (l.take N).length = N := by simp; omega
  have hdl : (l.drop N).length = l.toArray.size - N := by simp
  refine wp_region_any hm ?_
  have hE : ∀ listed, Region.seqB .any l.toArray (l.toArray.size - N) N listed = true → ∀ j ∈ Region.ready .any l.toArray listed, N ≤ j := fun listed h => seqB_ready h
  have hW : ∀ listed, HeadInv .any l.toArray N listed → ∀ i, i < N → listed.getD i true = false → ∀ j ∈ Region.ready .any l.toArray listed, j < N := fun listed inv i hi hun j hj => by
    rcases Nat.lt_or_ge j N with h1 | h1
    · exact h1
    · exact absurd hj (tail_waits hs hc hn inv _ i rfl hi hun j h1)
  have hg := wpAnyM_lex (E := fun ls => Region.seqB .any l.toArray (l.toArray.size - N) N ls = true) (E0 := fun k ls => Region.seqB .any l.toArray (l.toArray.size - N) k ls) hS (fun _ h => h) hE hW hsel (l.take N) 0 (Array.replicate l.toArray.size false) (Gr w) (act n e) (fun j hj => by
    have hj' : j < N := by rw [htl] at hj; exact hj
    simp [hj']) (by rw [htl]; simp) (head0 _ _ _) (by rw [← lexG_head, htl]; exact hlex) h
  have := wpAny_of_M (g := l.toArray.size - N) (Q' := lift n Q) (fun ls a w' h1 h2 => by
    obtain ⟨e', rfl, h3⟩ := h2
    unfold VL at h3
    have := wpAny_of_seq (md := .any) (Q' := lift n Q) (l.drop N) N ls (act n e') w' (fun j => by simp [List.getElem?_drop]) (by rw [hdl]; exact h1) h3
    rwa [hdl] at this) _ _ _ _ w.drew (hC0 _ (gr_drew w)) (gr_drew w) hg
  rw [htl, show N + (l.toArray.size - N) = l.toArray.size by omega] at this
  exact this
theorem mnil (h : ∀ w', C w' → H w' → Q e w') : VM P n ops C S Q [] q H e := fun w' g hw => ⟨e, rfl, h w' g hw⟩
theorem mstep {v : Value} (hg : o.guard = none) (hd : o.dst = some d) (hS : S q = false) (hr : ∀ w', C w' → (execOp (act n e).eval o).run P w' = .ok (.value v) w') (K : VM P n ops C S Q rest (q + 1) H (e.set d v)) : VM P n ops C S Q (o :: rest) q H e := by
  unfold VM wpLM
  rw [if_pos (by simp [Region.wanted, hg])]
  simp only [hS]
  exact ⟨v, fun w' hw' => .inl (hr w' hw'), by rw [act_put, hd]; exact K⟩
theorem myes {j : Nat} {b : Bool} {o' : Oper} (hg : o.guard = some (j, b)) (hy : yldE ops n e j = some b) (ho : { o with guard := none } = o') (K : VM P n ops C S Q (o' :: rest) q H e) : VM P n ops C S Q (o :: rest) q H e := by
  subst ho
  unfold VM wpLM at K ⊢
  have h1 : Region.wanted o (yielded ops (act n e).tmps) = true := by simp [Region.wanted, hg, yld_run hy]
  have h2 : Region.wanted { o with guard := none } (yielded ops (act n e).tmps) = true := by simp [Region.wanted]
  rw [if_pos h1]
  rw [if_pos h2] at K
  exact K
theorem mno {j : Nat} {b b' : Bool} (hg : o.guard = some (j, b')) (hy : yldE ops n e j = some b) (hne : (b == b') = false) (hd : o.dst = some d) (K : VM P n ops C S Q rest (q + 1) H (e.set d undef)) : VM P n ops C S Q (o :: rest) q H e := by
  unfold VM wpLM
  have h1 : ¬ Region.wanted o (yielded ops (act n e).tmps) = true := by simpa [Region.wanted, hg, yld_run hy] using hne
  rw [if_neg h1, act_put, hd]
  exact K
theorem mnoU {j : Nat} {b' : Bool} (hg : o.guard = some (j, b')) (hy : yldE ops n e j = none) (hd : o.dst = some d) (K : VM P n ops C S Q rest (q + 1) H (e.set d undef)) : VM P n ops C S Q (o :: rest) q H e := by
  unfold VM wpLM
  have h1 : ¬ Region.wanted o (yielded ops (act n e).tmps) = true := by simp [Region.wanted, hg, yld_none hy]
  rw [if_neg h1, act_put, hd]
  exact K
def noneB (S : Nat → Bool) : Nat → Nat → Bool
  | _, 0 => true
  | q, m + 1 => !(S q) && noneB S (q + 1) m
theorem mrun (hT : tabB P T = true) : ∀ (m : Nat) {l : List Oper} {e e' : Env} {q : Nat}, runK T n ops m l e = some (e', rest) → noneB S q m = true → VM P n ops C S Q rest (q + m) H e' → VM P n ops C S Q l q H e
  | 0, l, e, e', q, h, _, hk => by simp only [runK, Option.some.injEq, Prod.mk.injEq] at h; obtain ⟨rfl, rfl⟩ := h; exact hk
  | m + 1, [], e, e', q, h, _, hk => by simp [runK] at h
  | m + 1, o :: l, e, e', q, h, hS, hk => by
    simp only [noneB, Bool.and_eq_true, Bool.not_eq_true'] at hS
    obtain ⟨hS0, hS1⟩ := hS
    rw [show q + (m + 1) = q + 1 + m by omega] at hk
    simp only [runK] at h
    split at h
    · cases h
    · rename_i d hd
      split at h
      · rename_i hg
        split at h
        · rename_i v hv; exact mstep hg hd hS0 (fun _ _ => pureOp_run hT hv) (mrun hT m h hS1 hk)
        · cases h
      · rename_i j b hg
        split at h
        · rename_i b' hy
          cases hb : b' == b with
          | true =>
            rw [hb] at h
            simp only [cond_true] at h
            have : b' = b := eq_of_beq hb
            subst this
            split at h
            · rename_i v hv; exact myes hg hy rfl (mstep (o := { o with guard := none }) rfl hd hS0 (fun _ _ => pureOp_run (o := { o with guard := none }) hT hv) (mrun hT m h hS1 hk))
            · cases h
          | false =>
            rw [hb] at h
            exact mno hg hy hb hd (mrun hT m h hS1 hk)
        · rename_i hy
          exact mnoU hg hy hd (mrun hT m h hS1 hk)
/-- a call that writes; R is what its contract says from a world on -/
theorem mcall {R : World → Value → World → Prop} {f : Nat} {args : List Value} (hc : callE n e o = some (f, args)) (hs : ∀ w', C w' → H w' → Meets P f args w' (R w')) (hC : ∀ w' v w'', C w' → H w' → R w' v w'' → C w'') (hg : o.guard = none) (hd : o.dst = some d) (hS : S q = true)
    (K : ∀ v w1 w2, C w1 → H w1 → R w1 v w2 → VM P n ops C S Q rest (q + 1) (fun w2 => ∃ w1, C w1 ∧ H w1 ∧ R w1 v w2) (e.set d v)) : VM P n ops C S Q (o :: rest) q H e := by
  unfold VM wpLM
  rw [if_pos (by simp [Region.wanted, hg])]
  simp only [hS]
  refine ⟨fun v w2 => ∃ w1, C w1 ∧ H w1 ∧ R w1 v w2, fun w' g hw => ?_, fun v w2 g ⟨w1, g1, g2, g3⟩ => ?_⟩
  · unfold runs1 outc
    rw [callE_run (hs w' g hw).1 hc]
    exact (hs w' g hw).2.mono (by rintro _ w'' ⟨v, rfl, h1⟩; exact ⟨v, rfl, hC _ _ _ g hw h1, w', g, hw, h1⟩)
  · rw [act_put, hd]; exact K v w1 w2 g1 g2 g3
theorem outc_mono {a : Act} {Φ Ψ : Value → World → Prop} (h : outc P o a w Φ) (hq : ∀ v w', Φ v w' → Ψ v w') : outc P o a w Ψ := by
  unfold outc at *
  generalize (execOp a.eval o).run P w = r at h ⊢
  split at h
  · exact hq _ _ h
  · exact hq _ _ h
  · exact h.mono fun x w'' ⟨v, h1, h2⟩ => ⟨v, h1, hq _ _ h2⟩
  · exact h.mono hq
  · exact h.elim
/-- an operation that makes something, shown by the rules of VL -/
theorem outc_VL {Φ : Value → World → Prop} (hd : o.dst = some d) (hn : Nat.blt d n = true) (hg : o.guard = none) (h : VL P n ops (fun x e' w' => x = .normal ∧ Φ (e' d) w') [o] e w) : outc P o (act n e) w Φ := by
  have hn' := Nat.le_of_ble_eq_true hn
  have key : ∀ v w', lift n (fun x e' w' => x = .normal ∧ Φ (e' d) w') .normal ((act n e).put o.dst v) w' → Φ v w' := by
    rintro v w' ⟨e', h1, _, h2⟩
    rw [act_put, hd] at h1
    have h3 := congrArg (fun a : Act => a.tmps[d]?) h1
    simp only [act, Array.getElem?_ofFn] at h3
    have hn2 : d < n := hn'
    simp only [hn2, dif_pos] at h3
    have h4 : (e.set d v) d = e' d := Option.some.inj h3
    have h5 : (e.set d v) d = v := by simp [Env.set]
    rw [h5] at h4
    rw [h4]; exact h2
  unfold VL wpList at h
  rw [if_pos (by simp [Region.wanted, hg])] at h
  rcases h with h | ⟨_, a, w', e', _, h2, _⟩
  · unfold Oper.wp at h
    unfold outc
    generalize (execOp (act n e).eval o).run P w = r at h
    unfold Oper.upon at h
    split at h
    · exact key _ _ h
    · exact key _ _ h
    · obtain ⟨e', h1, _⟩ := h
      have h3 := congrArg Act.defers h1
      simp [Act.put, act, hd] at h3
    · refine h.mono fun x w'' hx => ?_
      split at hx
      · exact ⟨_, rfl, key _ _ hx⟩
      · obtain ⟨_, _, h2, _⟩ := hx; cases h2
      · obtain ⟨_, _, _, _, h2, _⟩ := hx; cases h2
    · exact h.mono fun v w'' hv => key _ _ hv
    · obtain ⟨_, _, h2, _⟩ := h; cases h2
    · exact h.elim
  · cases h2
theorem mop (R : World → Value → World → Prop) (hd : o.dst = some d) (hn : Nat.blt d n = true) (hg : o.guard = none) (hS : S q = true) (hs : ∀ w', C w' → H w' → VL P n ops (fun x e' w'' => x = .normal ∧ C w'' ∧ R w' (e' d) w'') [o] e w')
    (K : ∀ v w1 w2, C w1 → H w1 → R w1 v w2 → VM P n ops C S Q rest (q + 1) (fun w2 => ∃ w1, C w1 ∧ H w1 ∧ R w1 v w2) (e.set d v)) : VM P n ops C S Q (o :: rest) q H e := by
  unfold VM wpLM
  rw [if_pos (by simp [Region.wanted, hg])]
  simp only [hS]
  refine ⟨fun v w2 => ∃ w1, C w1 ∧ H w1 ∧ R w1 v w2, fun w' g hw => ?_, fun v w2 g ⟨w1, g1, g2, g3⟩ => ?_⟩
  · exact outc_mono (outc_VL (Φ := fun v w'' => C w'' ∧ R w' v w'') hd hn hg (hs w' g hw)) fun v w'' ⟨h3, h4⟩ => ⟨h3, w', g, hw, h4⟩
  · rw [act_put, hd]; exact K v w1 w2 g1 g2 g3
theorem mloadA (hT : tabB P T = true) {b o0 off t : Nat} {cs : List Value} {x : Operand} {v : Value} (F : ∀ w', C w' → At w' b o0 cs) (ho : o.op = .load t x) (hx : evn n e x = some (.pointer (some ⟨b, o0 + off, none⟩))) (hv : force (loadC T t cs off) = some v) (hg : o.guard = none) (hd : o.dst = some d) (hS : S q = false)
    (K : VM P n ops C S Q rest (q + 1) H (e.set d v)) : VM P n ops C S Q (o :: rest) q H e := by
  refine mstep hg hd hS (fun w' hw' => ?_) K
  simp only [execOp, ho, evn_eval hx]
  refine run_pure_value ?_
  rw [force_eq] at hv
  simp [Instr.loadAt, Instr.sureAddr, run_loadC hT (F w' hw') hv]
theorem mloadO (hT : tabB P T = true) {b off t ty : Nat} {cs : List Value} {x : Operand} {v : Value} (F : ∀ w', C w' → Cells w' b cs ty) (ho : o.op = .load t x) (hx : evn n e x = some (.pointer (some ⟨b, off, none⟩))) (hv : force (loadC T t cs off) = some v) (hg : o.guard = none) (hd : o.dst = some d) (hS : S q = false)
    (K : VM P n ops C S Q rest (q + 1) H (e.set d v)) : VM P n ops C S Q (o :: rest) q H e :=
  mloadA hT (o0 := 0) (off := off) (fun w' hw' => (F w' hw').at_) ho (by rw [Nat.zero_add]; exact hx) hv hg hd hS K
/-- a store into a block of cells -/
theorem mstoreC {k off t ty : Nat} {cs cs' : List Value} {x y : Operand} {v : Value} (F : ∀ w', C w' → H w' → Cells w' k cs ty) (hC : ∀ w' w'', C w' → H w' → Fr [k] w' w'' → Cells w'' k cs' ty → C w'') (ho : o.op = .store t x y) (hx : evn n e x = some (.pointer (some ⟨k, off, none⟩))) (hy0 : force (evn n e y) = some v)
    (h10 : (cellsL v).all Value.oneCell' = true) (hs : sizeT P t = some (cellsL v).length) (hle : Nat.ble (off + (cellsL v).length) cs.length = true) (hc : spliceL cs off (cellsL v) = cs') (hg : o.guard = none) (hd : o.dst = none) (hS : S q = true)
    (K : VM P n ops C S Q rest (q + 1) (fun w2 => ∃ w1, H w1 ∧ Fr [k] w1 w2 ∧ w2.heap.size = w1.heap.size ∧ Cells w2 k cs' ty) e) : VM P n ops C S Q (o :: rest) q H e := by
  have hle' : off + (cellsL v).length ≤ cs.length := Nat.le_of_ble_eq_true hle
  have hy : evn n e y = some v := by rw [force_eq] at hy0; exact hy0
  have h1 : ∀ u ∈ cellsL v, u.oneCell' = true := by simpa using h10
  subst hc
  unfold VM at K
  unfold VM wpLM
  rw [if_pos (by simp [Region.wanted, hg])]
  simp only [hS]
  refine ⟨fun _ w2 => ∃ w1, H w1 ∧ Fr [k] w1 w2 ∧ w2.heap.size = w1.heap.size ∧ Cells w2 k (spliceL cs off (cellsL v)) ty, fun w' g hw => ?_, fun u w1 g h => ?_⟩
  · have hst := run_storeCells_at P k off ty (cellsL v) 0 cs.toArray w' (F w' g hw) (by simpa using hle') h1
    simp only [Nat.add_zero] at hst
    have hrun : (execOp (act n e).eval o).run P w' = .ok .skip (w'.setRow k (cs.take off ++ cellsL v ++ cs.drop (off + (cellsL v).length)).toArray) := by
      simp only [execOp, ho, evn_eval hx, evn_eval hy]
      simp only [Instr.storeAt, Instr.sureAddr, storeVar, cellsL_eq]
      simp [run_sizeOf' hs, hst]
    unfold runs1 outc
    rw [hrun]
    have hcl : Cells (w'.setRow k (cs.take off ++ cellsL v ++ cs.drop (off + (cellsL v).length)).toArray) k (spliceL cs off (cellsL v)) ty := by
      rw [spliceL_eq _ _ _ hle']
      exact setRow_heap w' k cs.toArray _ ty (0, 0) (F w' g hw)
    exact ⟨hC _ _ g hw (fr_setRow _ _ _) hcl, w', hw, fr_setRow _ _ _, by simp, hcl⟩
  · rw [hd]; exact K
end
attribute [irreducible] VM
/-! ### Structs that are compared; the order of strings; the least and the greatest of two -/
section
variable {P : Program} {n : Nat} {e : Env} {w : World} {o : Oper}
theorem run_part {t off sz : Nat} {agg : Bool} {cs : Array Value} {v : Value} (hs : sizeT P t = some sz) (ha : aggT P t = agg) (hi : (P.underlying t).isSome = true)
    (h : (bif agg then some (.agg ((cs.toList.drop off).take sz).toArray) else cs.toList[off]?) = some v) : (part t cs off).run P w = .ok v w := by
  have h2 := run_isAgg (P := P) (w := w) hi
  rw [ha] at h2
  cases agg with
  | true =>
    simp only [cond_true, Option.some.injEq] at h; subst h
    have hs' := run_sizeOf' (w := w) hs
    simp [part, h2, hs']
    apply Array.toList_inj.1
    simp [List.take_drop]
  | false =>
    have : cs[off]? = some v := by simpa using h
    simp [part, h2, this]
/-- the order of strings, as Lean has it of lists -/
theorem bl_eq : ∀ (x y : List UInt8), Op.bytesLess x y = decide (x < y)
  | [], [] => by simp [Op.bytesLess]
  | _ :: _, [] => by simp [Op.bytesLess]
  | [], _ :: _ => by simp [Op.bytesLess]
  | a :: x, b :: y => by
    rw [Op.bytesLess, bl_eq x y]
    have h : (a :: x < b :: y) ↔ (a < b ∨ a = b ∧ x < y) := List.cons_lt_cons_iff
    by_cases h1 : a < b
    · simp [h1, h]
    · by_cases h2 : a = b
      · subst h2; by_cases h3 : x < y <;> simp [h, h3]
      · simp [h1, h2, h]
theorem bs_inj {a b : ByteArray} : a = b ↔ a.data.toList = b.data.toList := by
  constructor
  · intro h; rw [h]
  · intro h; cases a; cases b; simpa using h
end
/-! ### Strings as a linear order ('grind' knows it) -/
instance ltBA : LT ByteArray := ⟨fun a b => a.data.toList < b.data.toList⟩
instance leBA : LE ByteArray := ⟨fun a b => a.data.toList ≤ b.data.toList⟩
instance (a b : ByteArray) : Decidable (a < b) := inferInstanceAs (Decidable (a.data.toList < b.data.toList))
instance (a b : ByteArray) : Decidable (a ≤ b) := inferInstanceAs (Decidable (a.data.toList ≤ b.data.toList))
instance linBA : Std.IsLinearOrder ByteArray where
  le_refl a := by show a.data.toList ≤ a.data.toList; grind
  le_trans a b c h1 h2 := by have h1 : a.data.toList ≤ b.data.toList := h1; have h2 : b.data.toList ≤ c.data.toList := h2; show a.data.toList ≤ c.data.toList; grind
  le_antisymm a b h1 h2 := by have h1 : a.data.toList ≤ b.data.toList := h1; have h2 : b.data.toList ≤ a.data.toList := h2; exact bs_inj.2 (by grind)
  le_total a b := by show a.data.toList ≤ b.data.toList ∨ b.data.toList ≤ a.data.toList; grind
instance lawBA : Std.LawfulOrderLT ByteArray where
  lt_iff a b := by show a.data.toList < b.data.toList ↔ a.data.toList ≤ b.data.toList ∧ ¬ b.data.toList ≤ a.data.toList; grind
theorem bl {a b : ByteArray} : Op.bytesLess a.data.toList b.data.toList = decide (a < b) := bl_eq _ _
example (a b c d : ByteArray) (h : a < b) (h2 : ¬ c < b) (h3 : c < d) (h4 : ¬ a = d) : a < d := by grind
theorem mk2 {a b : UInt8} : (⟨#[a, b]⟩ : ByteArray) = S [a, b] := rfl
/-! ### slices.Grow at nil: a row with room and nothing in it -/
section
variable {P : Program} {n : Nat} {ops : Array Oper} {Q : Post} {e : Env} {w : World} {rest l : List Oper} {o : Oper} {d : Nat} {T : Tab} {α : Type} {C : Cod α}
end
section
variable {w : World} {α : Type} {C : Cod α} {D : Nat → Prop} {x : α} {xs : List α} {cs ds es : List Value} {k t : Nat}
theorem reps_cons (h : C.R w D x cs) (h2 : Reps C w D xs ds) (he : es = cs ++ ds) : Reps C w D (x :: xs) es := ⟨cs, ds, he, h, h2⟩
theorem rowOfC {xs : List α} (F : Cells w k cs t) (hR : Reps C w None' xs cs) (hm : Nat.ble xs.length 100000 = true) : Row C t w None' k (k + 1) (some ⟨k, 0, none⟩) xs.length xs :=
  Row.ofCells F hR (fun h => h) (fun _ h => h) (by have := Nat.le_of_ble_eq_true hm; simp only [maxLen]; omega)
end
section
variable {P : Program} {n : Nat} {e : Env} {w : World} {o : Oper}
end
/-! ### A field's row that grows in a drawn region: 'd.L = append(d.L, x)' -/
theorem At.bl {w w' : World} {b o lo : Nat} {cs : List Value} (h : At w b o cs) (f : Bl lo w w') (hb : b < lo) : At w' b o cs := h.mv f.asFr (by intro i hi; simp at hi; omega)
section
variable {P : Program} {n : Nat} {ops : Array Oper} {w : World} {CC : World → Prop} {S : Nat → Bool} {Q : Env → World → Prop} {e : Env} {H : World → Prop} {q : Nat} {rest l : List Oper} {o : Oper} {d : Nat} {T : Tab}
end
/-! ### A drawn region in which one operation that only computes may float: it may be held to come ahead of another -/
section
variable {P : Program} {md : Region.Mode} {Q : Exit → Act → World → Prop}
end
section
variable {P : Program} {n : Nat} {e : Env} {w : World}
end
section
variable {P : Program} {n : Nat} {w : World} {e : Env}
end
/-! ### Maps that the call itself has made: their entries as a list -/
instance lawBEqBA : LawfulBEq ByteArray where
  eq_of_beq h := (MapKept.bytes_beq _ _).1 h
  rfl := (MapKept.bytes_beq _ _).2 rfl
section
variable {κ : Type}
def kvOf (e : MapEntry) : Value × Value := (e.key, e.val)
/-- block b is a map of these entries -/
structure MapB (w : World) (b : Nat) (enc : κ → Value) (l : List (κ × Value)) : Prop where
  ex : ∃ es clock, w.heap[b]? = some (.map es clock) ∧ es.toList.map kvOf = l.map fun x => (enc x.1, x.2)
variable {w w' : World} {b : Nat} {enc : κ → Value} {l : List (κ × Value)}
theorem MapB.lt (h : MapB w b enc l) : b < w.heap.size := let ⟨_, _, h1, _⟩ := h.ex; (Array.getElem?_eq_some_iff.1 h1).1
theorem MapB.mv {S : List Nat} (h : MapB w b enc l) (f : Fr S w w') (hn : b ∉ S) : MapB w' b enc l := let ⟨es, c, h1, h2⟩ := h.ex; ⟨es, c, (f.block b h.lt hn).trans h1, h2⟩
theorem MapB.gr (h : MapB w b enc l) (f : Gr w w') : MapB w' b enc l := h.mv f (by simp)
theorem MapB.mv1 {i : Nat} (h : MapB w b enc l) (f : Fr [i] w w') (hn : i ≠ b) : MapB w' b enc l := h.mv f (by simpa using fun h => hn h.symm)
theorem MapB.bl {lo : Nat} (h : MapB w b enc l) (f : Bl lo w w') (hn : b < lo) : MapB w' b enc l := let ⟨es, c, h1, h2⟩ := h.ex; ⟨es, c, (f.block b hn).trans h1, h2⟩
variable {P : Program} {n : Nat} {ops : Array Oper} {Q : Post} {e : Env} {rest : List Oper} {o : Oper} {d : Nat}
theorem mkMap {t : Nat} (ho : o.op = .makeMap t none) (hg : o.guard = none) (hd : o.dst = some d)
    (Kk : ∀ b w', w.heap.size = b → w'.heap.size = b + 1 → Gr w w' → MapB w' b enc [] → VL P n ops Q rest (e.set d (.map (some b))) w') : VL P n ops Q (o :: rest) e w := by
  refine step hg hd (v := .map (some w.heap.size)) (w' := w.alloc (.map #[] 0)) ?_ (Kk _ _ rfl (by simp) (gr_alloc w _) ⟨#[], 0, ?_, rfl⟩)
  · simp only [execOp, ho]; exact run_value (by rfl)
  · exact heap_alloc_new w _
end
section
variable {κ : Type} [DecidableEq κ]
/-- how keys of a type are told apart: strings, whole numbers -/
structure KeyT (P : Program) (kt : Nat) (enc : κ → Value) : Prop where
  und : ∃ d, P.underlying kt = some d ∧ ∀ a b, Instr.sameNow d (enc a) (enc b) = some (decide (a = b))
  chk : ∀ (w : World) (e : Bool) (n : Nat) (a : κ), (Instr.checkKey e (n + 1) kt (enc a)).run P w = .ok () w
  same : ∀ (n : Nat) (a : κ), Instr.sameBits (n + 1) (enc a) (enc a) = true
theorem key_int {P : Program} {kt : Nat} {q : IntKind} (h : P.underlying kt = some (.int q)) : KeyT P kt (Value.int q) where
  und := ⟨_, h, fun a b => by
    show (if q = q then some (a == b) else none) = _
    rw [if_pos rfl, beq_dec]⟩
  chk := fun w e n a => by simp [Instr.checkKey, run_underlying h]
  same := fun n a => by simp [Instr.sameBits]
def mfindI : List (κ × Value) → κ → Nat → Option (Nat × Value)
  | [], _, _ => none
  | x :: l, k, i => if k = x.1 then some (i, x.2) else mfindI l k (i + 1)
def mfind (l : List (κ × Value)) (k : κ) : Option Value := (mfindI l k 0).map (·.2)
def mput : List (κ × Value) → κ → Value → List (κ × Value)
  | [], k, v => [(k, v)]
  | x :: l, k, v => if k = x.1 then (k, v) :: l else x :: mput l k v
variable {w w' : World} {b : Nat} {enc : κ → Value} {l : List (κ × Value)}
theorem findNow_eq {d : TypeDesc} (hd : ∀ a b, Instr.sameNow d (enc a) (enc b) = some (decide (a = b))) (k : κ) : ∀ (es : List MapEntry) (l : List (κ × Value)) (i : Nat), es.map kvOf = l.map (fun x => (enc x.1, x.2)) → Instr.findNow d (enc k) es i = some (mfindI l k i)
  | [], [], i, _ => rfl
  | e :: es, x :: l, i, h => by
    simp only [List.map_cons, List.cons.injEq, kvOf, Prod.mk.injEq] at h
    obtain ⟨⟨h1, h2⟩, h3⟩ := h
    simp only [Instr.findNow, h1, hd, mfindI]
    by_cases hk : k = x.1
    · simp [hk, h2]
    · simp only [hk, decide_false, if_false]; exact findNow_eq hd k es l (i + 1) h3
  | [], _ :: _, i, h => by simp at h
  | _ :: _, [], i, h => by simp at h
theorem mod_map {K U : Value} : ∀ (es : List MapEntry) (j : Nat), (es.modify j (fun e => { e with key := K, val := U })).map kvOf = (es.map kvOf).modify j (fun _ => (K, U))
  | [], j => by cases j <;> simp
  | e :: es, 0 => by simp [kvOf]
  | e :: es, j + 1 => by simpa using mod_map es j
theorem mfindI_ge {k : κ} : ∀ (l : List (κ × Value)) (i p : Nat) (v : Value), mfindI l k i = some (p, v) → i ≤ p
  | [], i, p, v, h => by simp [mfindI] at h
  | x :: l, i, p, v, h => by
    simp only [mfindI] at h
    split at h
    · simp at h; omega
    · have := mfindI_ge l _ _ _ h; omega
theorem mfindI_put {k : κ} : ∀ (u : Value) (l : List (κ × Value)) (i j : Nat) (v : Value), mfindI l k i = some (i + j, v) → (l.map fun x => (enc x.1, x.2)).modify j (fun _ => (enc k, u)) = (mput l k u).map (fun x => (enc x.1, x.2)) ∧ ∃ x, l[j]? = some x ∧ x.1 = k
  | u, [], i, j, v, h => by simp [mfindI] at h
  | u, x :: l, i, j, v, h => by
    simp only [mfindI] at h
    by_cases hk : k = x.1
    · rw [if_pos hk] at h
      simp only [Option.some.injEq, Prod.mk.injEq] at h
      obtain rfl : j = 0 := by omega
      exact ⟨by simp [mput, hk], x, rfl, hk.symm⟩
    · rw [if_neg hk] at h
      cases j with
      | zero =>
        exfalso
        have := mfindI_ge l _ _ _ h; omega
      | succ j =>
        rw [show i + (j + 1) = (i + 1) + j by omega] at h
        obtain ⟨h1, h2⟩ := mfindI_put u l (i + 1) j v h
        exact ⟨by simp [mput, hk, h1], h2⟩
theorem mfindI_none {k : κ} {u : Value} : ∀ (l : List (κ × Value)) (i : Nat), mfindI l k i = none → mput l k u = l ++ [(k, u)]
  | [], i, _ => rfl
  | x :: l, i, h => by
    simp only [mfindI] at h
    by_cases hk : k = x.1
    · rw [if_pos hk] at h; simp at h
    · rw [if_neg hk] at h
      simp [mput, hk, mfindI_none l (i + 1) h]
theorem fr_setB {o : Obj} (w : World) (b : Nat) : Fr [b] w { w with heap := w.heap.setIfInBounds b o } :=
  ⟨rfl, rfl, rfl, by simp, fun k _ hn => by
    have : b ≠ k := fun h => hn (by simp [h])
    simp [Array.getElem?_setIfInBounds_ne this]⟩
theorem mapUpd_run {P : Program} {t kt et : Nat} {k : κ} {u : Value} (K : KeyT P kt enc) (ht : P.underlying t = some (.map kt et)) (F : MapB w b enc l) :
    ∃ w', (Instr.mapUpdate t (.map (some b)) (enc k) u).run P w = .ok () w' ∧ Fr [b] w w' ∧ w'.heap.size = w.heap.size ∧ MapB w' b enc (mput l k u) := by
  obtain ⟨es, clock, hb, he⟩ := F.ex
  obtain ⟨d, hd1, hd2⟩ := K.und
  have hf := findNow_eq hd2 k es.toList l 0 he
  have hchk := K.chk w false 9999 k
  have hlt := F.lt
  cases hm : mfindI l k 0 with
  | none =>
    rw [hm] at hf
    refine ⟨{ w with heap := w.heap.setIfInBounds b (.map (es.push { key := enc k, val := u, born := clock }) (clock + 1)) }, ?_, fr_setB w b, by simp, ⟨es.push { key := enc k, val := u, born := clock }, clock + 1, by simp [hlt], ?_⟩⟩
    · simp [Instr.mapUpdate, run_underlying ht, MapKept.run_getObj_map hb, hchk, MapKept.run_findKey hd1 hf, MapKept.run_setObj_map _ hb]
    · rw [mfindI_none l 0 hm]; simp [he, kvOf]
  | some y =>
    obtain ⟨j, v⟩ := y
    rw [hm] at hf
    obtain ⟨h1, x, h2, h3⟩ := mfindI_put (enc := enc) u l 0 j v (by simpa using hm)
    have hkey : ((es[j]?).map (·.key)).getD (enc k) = enc k := by
      have : (es.toList.map kvOf)[j]? = some (enc x.1, x.2) := by rw [he]; simp [h2]
      rw [List.getElem?_map, Array.getElem?_toList] at this
      cases hj : es[j]? with
      | none => simp
      | some ee => rw [hj] at this; simp [kvOf] at this; simp [this.1, h3]
    have hks : (Instr.keyThatStays (enc k) (enc k)).run P w = .ok (enc k) w := by simp [Instr.keyThatStays, K.same 9999 k]
    refine ⟨{ w with heap := w.heap.setIfInBounds b (.map (es.modify j fun e => { e with key := enc k, val := u }) clock) }, ?_, fr_setB w b, by simp, ⟨es.modify j fun e => { e with key := enc k, val := u }, clock, by simp [hlt], ?_⟩⟩
    · simp [Instr.mapUpdate, run_underlying ht, MapKept.run_getObj_map hb, hchk, MapKept.run_findKey hd1 hf, hkey, hks, MapKept.run_setObj_map _ hb]
    · rw [Array.toList_modify, mod_map, he, h1]
variable {P : Program} {n : Nat} {ops : Array Oper} {Q : Post} {e : Env} {rest : List Oper} {o : Oper} {d : Nat}
theorem mapUpd {t kt et : Nat} {m x v : Operand} {k : κ} {u : Value} (K : KeyT P kt enc) (ho : o.op = .mapUpdate t m x v ∨ o.op = .insert t m x v) (ht : P.underlying t = some (.map kt et)) (F : MapB w b enc l)
    (hm : evn n e m = some (.map (some b))) (hx : evn n e x = some (enc k)) (hv0 : force (evn n e v) = some u) (hg : o.guard = none) (hd : o.dst = none)
    (Kk : ∀ w', Fr [b] w w' → w'.heap.size = w.heap.size → MapB w' b enc (mput l k u) → VL P n ops Q rest e w') : VL P n ops Q (o :: rest) e w := by
  rw [force_eq] at hv0
  have hv := hv0
  obtain ⟨w', h1, h2, h3, h4⟩ := mapUpd_run (k := k) (u := u) K ht F
  refine stepS hg hd (w' := w') ?_ (Kk w' h2 h3 h4)
  rcases ho with ho | ho <;> simp [execOp, ho, evn_eval hm, evn_eval hx, evn_eval hv, h1]
def lookV (ok : Bool) (r : Option Value) (z : Value) : Value := if ok then .tuple #[r.getD z, .bool r.isSome] else r.getD z
theorem look_run {t kt et : Nat} {m x : Operand} {k : κ} {ok : Bool} {z : Value} (K : KeyT P kt enc) (ho : o.op = .lookup t m x ok) (ht : P.underlying t = some (.map kt et)) (hz : zeroT P et = some z) (F : MapB w b enc l)
    (hm : evn n e m = some (.map (some b))) (hx : evn n e x = some (enc k)) : (execOp (act n e).eval o).run P w = .ok (.value (lookV ok (mfind l k) z)) w := by
  obtain ⟨es, clock, hb, he⟩ := F.ex
  obtain ⟨d, hd1, hd2⟩ := K.und
  have hf := findNow_eq hd2 k es.toList l 0 he
  have hchk := K.chk w es.isEmpty 9999 k
  simp only [execOp, ho, evn_eval hm, evn_eval hx]
  refine run_value ?_
  unfold mfind
  cases hq : mfindI l k 0 with
  | none => rw [hq] at hf; cases ok <;> simp [Instr.lookup, run_underlying ht, MapKept.run_getObj_map hb, hchk, MapKept.run_findKey hd1 hf, lookV, run_zero hz]
  | some y => rw [hq] at hf; cases ok <;> simp [Instr.lookup, run_underlying ht, MapKept.run_getObj_map hb, hchk, MapKept.run_findKey hd1 hf, lookV]
end
/-! ### A loop of so many rounds -/
section
variable {P : Program} {n : Nat} {Q : Post} {e : Env} {w : World} {c : Code}
def RV (P : Program) (n : Nat) (c : Code) (Q : Post) : Nat → Env → World → Prop
  | 0, _, _ => False
  | k + 1, e, w => VC P n c (thn (RV P n c Q k) Q) e w
theorem rnd {k : Nat} (h : VC P n c (thn (RV P n c Q k) Q) e w) : RV P n c Q (k + 1) e w := h
theorem loopR (k : Nat) (h : RV P n c Q k e w) : VC P n (.loop c) Q e w := by
  unfold VC
  refine wp_loop_rounds k ?_
  have key : ∀ k e w, RV P n c Q k e w → Code.rounds P c (lift n Q) k (act n e) w := by
    intro k
    induction k with
    | zero => intro e w h; exact h
    | succ k ih =>
      intro e w h
      have h1 : VC P n c (thn (RV P n c Q k) Q) e w := h
      unfold VC at h1
      refine wp_mono h1 ?_
      rintro x a w ⟨e, rfl, hq⟩
      cases x with
      | normal => exact ih _ _ hq
      | _ => exact ⟨e, rfl, hq⟩
  exact key k e w h
end
/-! ### Short forms: what the generator says often -/
section
theorem dec {p q : Prop} (h : p) (e : p = q := by (conv => lhs; simp only [decide_eq_true_eq, decide_eq_false_iff_not, Bool.or_eq_true, Bool.and_eq_true, Bool.or_eq_false_iff, Bool.and_eq_false_iff, Bool.not_eq_true', Bool.not_eq_false', Int.not_lt, Int.not_le, Decidable.not_not, V.u8eq, V.S_inj, V.S_lit, V.S_lit2, V.bl]) <;> rfl) : q := e ▸ h
variable {α : Type} {C : Cod α} {w w' : World} {D D' B B' : Nat → Prop} {a : Option Addr} {c k n lo hi lo' hi' t : Nat} {xs : List α}
theorem Sl.ma (h : Sl C w D a c xs) (f : Fr [k] w w') (hn : ¬ D k := by first | exact (fun h => by have := h.1; have := h.2; omega) | exact (fun h => by omega) | exact (fun h => by have := h.1.1; have := h.1.2; omega) | exact (fun h => h.2 rfl) | exact (fun h => hnk h.1)) : Sl C w' D a c xs := h.mv1 f hn
theorem Sl.mb (h : Sl C w D a c xs) (f : Fr [k] w w') (hb : ∀ k, D k → k < n) (hn : n ≤ k := by omega) : Sl C w' D a c xs := h.mv1 f (fun hd => absurd (hb _ hd) (by omega))
theorem Row.ma (h : Row C t w B lo hi a c xs) (f : Fr [k] w w') (hk : ¬ B k ∧ ¬ In lo hi k := by first | exact ⟨fun h => h, fun h => by have := h.1; have := h.2; omega⟩ | omega) : Row C t w' B lo hi a c xs := h.mv1 f hk
theorem Fr.n1 {S : List Nat} {a b c : World} {i : Nat} (h : Fr S a b) (f : Fr [i] b c) (hs : i ∈ S ∨ a.heap.size ≤ i := by first | (refine Or.inr ?_; omega) | (refine Or.inl ?_; simp; done)) : Fr S a c := h.new1 f hs
theorem Sl.re (h : Sl C w D a c xs) (hs : ∀ k, D k → D' k := by first | exact (fun k h => h) | exact (fun k h => ⟨by have := h.1; omega, by have := h.2; omega⟩) | exact (fun k h => by omega) | exact (fun k h => h.1) | exact (fun k h => hnew k (by have := h.1; omega)) | exact (fun k h => ⟨h.1, by have := h.2; omega⟩) | exact (fun k h => ⟨hnew k (by have := h.1; omega), by have := h.2; omega⟩) | exact (fun k h => .inl h) | exact (fun k h => .inr ⟨by have := h.1; omega, by have := h.2; omega⟩) | exact (fun k h => by rcases h with h | h <;> exact ⟨by have := h.1; omega, by have := h.2; omega⟩)) : Sl C w D' a c xs := h.mono hs
theorem Row.re (h : Row C t w B lo hi a c xs) (h1 : lo' ≤ lo := by omega) (h2 : hi ≤ hi' := by omega) : Row C t w B lo' hi' a c xs := h.mono (fun _ h => h) h1 h2
end
/-! ### A frame of two, as two -/
theorem Fr.two {i j : Nat} {a c : World} (h : Fr [i, j] a c) : ∃ b, Fr [i] a b ∧ Fr [j] b c := by
  by_cases hi : i < a.heap.size
  · have hc : i < c.heap.size := Nat.lt_of_lt_of_le hi h.size
    refine ⟨{ a with heap := a.heap.set i c.heap[i] hi }, ⟨rfl, rfl, rfl, by simp, fun k hk hn => ?_⟩, ⟨h.os, h.tape, h.output, by simpa using h.size, fun k hk hn => ?_⟩⟩
    · have : i ≠ k := fun e => hn (by simp [e])
      simp [Array.getElem?_set, this]
    · have hk' : k < a.heap.size := by simpa using hk
      by_cases e : i = k
      · subst e; simp [hc]
      · rw [Array.getElem?_set_ne hi e]
        exact h.block k hk' (by simp only [List.mem_cons, List.not_mem_nil, or_false, not_or] at hn ⊢; exact ⟨fun x => e x.symm, hn⟩)
  · exact ⟨a, Fr.refl _ _, h.mono (by intro k hk hlt; simp only [List.mem_cons, List.not_mem_nil, or_false] at hk ⊢; omega)⟩
/-! ### A block without texts holds none of a slice whose elements begin with one -/
/-! ### How long a slice can be that lies in a struct -/
/-! ### Walks with deferred calls of the activation at hand, in a round of a range over a function or not -/
abbrev PostD := Exit → Env → List Deferred → World → Prop
def actD (n : Nat) (e : Env) (ds : List Deferred) : Act := { act n e with defers := ds }
def wR (ro : Option Nat) : Fence := { fn := fun _ => True, depth := none, alive := false, round := ro }
def liftD (n : Nat) (Q : PostD) : Exit → Act → World → Prop := fun x a w => ∃ e ds, a = actD n e ds ∧ Q x e ds w
def VD (P : Program) (ro : Option Nat) (n : Nat) (c : Code) (Q : PostD) (e : Env) (ds : List Deferred) (w : World) : Prop := c.wpIn (wR ro) 0 P (liftD n Q) (actD n e ds) w
def dthn (K : Env → List Deferred → World → Prop) (Q : PostD) : PostD
  | .normal, e, ds, w => K e ds w
  | .exit i, e, ds, w => Q (.exit i) e ds w
  | .goto i, e, ds, w => Q (.goto i) e ds w
  | .ret, e, ds, w => Q .ret e ds w
  | .panic c, e, ds, w => Q (.panic c) e ds w
  | .outgrown, e, ds, w => Q .outgrown e ds w
def dblk (id : Nat) (Q : PostD) : PostD
  | .exit i, e, ds, w => bif Nat.beq i id then Q .normal e ds w else Q (.exit i) e ds w
  | .normal, e, ds, w => Q .normal e ds w
  | .goto i, e, ds, w => Q (.goto i) e ds w
  | .ret, e, ds, w => Q .ret e ds w
  | .panic c, e, ds, w => Q (.panic c) e ds w
  | .outgrown, e, ds, w => Q .outgrown e ds w
theorem actD_eval (n : Nat) (e : Env) (ds : List Deferred) (o : Operand) : (actD n e ds).eval o = (act n e).eval o := by cases o <;> rfl
theorem eval_ds (a : Act) (ds : List Deferred) : ({ a with defers := ds } : Act).eval = a.eval := by funext o; cases o <;> rfl
theorem put_ds (a : Act) (ds : List Deferred) (d : Option Tmp) (v : Value) : ({ a with defers := ds } : Act).put d v = { a.put d v with defers := ds } := by cases d <;> rfl
theorem put_defers (a : Act) (d : Option Tmp) (v : Value) : (a.put d v).defers = a.defers := by cases d <;> rfl
section
variable {P : Program} {ro : Option Nat} {n : Nat} {Q : PostD} {e : Env} {ds : List Deferred} {w : World}
theorem VD.mono {c : Code} {Q' : PostD} (h : VD P ro n c Q e ds w) (hq : ∀ x e ds w, Q x e ds w → Q' x e ds w) : VD P ro n c Q' e ds w :=
  wpIn_mono h (fun _ _ _ ⟨e, ds, h1, h2⟩ => ⟨e, ds, h1, hq _ _ _ _ h2⟩)
theorem dseq {a b : Code} (h : VD P ro n a (dthn (VD P ro n b Q) Q) e ds w) : VD P ro n (.seq a b) Q e ds w := by
  refine wpIn_seq (wpIn_mono h ?_)
  rintro x a w ⟨e, ds, rfl, hq⟩
  cases x <;> first | exact hq | exact ⟨e, ds, rfl, hq⟩
theorem dblock {id : Nat} {c : Code} (h : VD P ro n c (dblk id Q) e ds w) : VD P ro n (.block id c) Q e ds w := by
  refine wpIn_block (wpIn_mono h ?_)
  rintro x a w ⟨e, ds, rfl, hq⟩
  cases x with
  | exit i =>
    simp only [Exit.inBlock]
    by_cases hi : i = id
    · subst hi; simp only [dblk] at hq; rw [if_pos rfl]; exact ⟨e, ds, rfl, by simpa using hq⟩
    · rw [if_neg hi]; refine ⟨e, ds, rfl, ?_⟩
      have : Nat.beq i id = false := by
        cases hb : Nat.beq i id with
        | false => rfl
        | true => exact absurd (Nat.eq_of_beq_eq_true hb) hi
      simpa [dblk, this] using hq
  | _ => exact ⟨e, ds, rfl, hq⟩
theorem dskip (h : Q .normal e ds w) : VD P ro n .skip Q e ds w := wpIn_skip ⟨e, ds, rfl, h⟩
theorem dret (h : Q .ret e ds w) : VD P ro n .ret Q e ds w := wpIn_ret ⟨e, ds, rfl, h⟩
theorem dexit {id : Nat} (h : Q (.exit id) e ds w) : VD P ro n (.exit id) Q e ds w := wpIn_exit ⟨e, ds, rfl, h⟩
theorem dcondT {c : Operand} {x y : Code} {t : Bool} (hc : evn n e c = some (.bool t)) (ht : t = true → VD P ro n x Q e ds w) (hf : t = false → VD P ro n y Q e ds w) : VD P ro n (.cond c x y) Q e ds w := by
  cases t with
  | true => exact wpIn_cond_true (by rw [actD_eval]; exact evn_eval hc) (ht rfl)
  | false => exact wpIn_cond_false (by rw [actD_eval]; exact evn_eval hc) (hf rfl)
theorem dcondN {c : Operand} {x y : Code} {t : Bool} (hc : evn n e c = some (.bool t)) (htt : t = false) (hf : VD P ro n y Q e ds w) : VD P ro n (.cond c x y) Q e ds w := dcondT hc (fun h => by rw [htt] at h; cases h) (fun _ => hf)
variable {K : Env → List Deferred → World → Prop}
theorem dtN (h : K e ds w) : dthn K Q .normal e ds w := h
theorem dtX {i : Nat} (h : Q (.exit i) e ds w) : dthn K Q (.exit i) e ds w := h
theorem dbN {i : Nat} (h : Q .normal e ds w) : dblk i Q .normal e ds w := h
theorem dbE {i : Nat} (h : Q .normal e ds w) : dblk i Q (.exit i) e ds w := by simp [dblk]; exact h
theorem dknownC {t : Nat} {v : Value} {c : Code} (h : e t = v) (k : VD P ro n c Q (e.set t v) ds w) : VD P ro n c Q e ds w := by rw [set_self h] at k; exact k
/-- a loop, with a measure that is named at each round's head -/
theorem dloopM {c : Code} (I : Nat → Env → World → Prop) (h₀ : ∃ m, I m e w)
    (round : ∀ m e w, I m e w → VD P ro n c (dthn (fun e' ds' w' => ds' = ds ∧ ∃ m', m' < m ∧ I m' e' w') Q) e ds w) : VD P ro n (.loop c) Q e ds w := by
  classical
  let J : Act → World → Nat → Prop := fun a w m => ∃ e, a = actD n e ds ∧ I m e w
  let μ : Act → World → Nat := fun a w => if h : ∃ m, J a w m then Classical.choose (least h) else 0
  refine wpIn_loop (fun a w => ∃ m, J a w m) μ (let ⟨m, hm⟩ := h₀; ⟨m, e, rfl, hm⟩) ?_
  intro a w hJ
  obtain ⟨⟨e, ha, hI⟩, _⟩ := Classical.choose_spec (least hJ)
  have hμ : μ a w = Classical.choose (least hJ) := by simp only [μ]; rw [dif_pos hJ]
  subst ha
  refine wpIn_mono (round _ e w hI) ?_
  rintro x a' w' ⟨e', ds', rfl, hq⟩
  cases x with
  | normal =>
    obtain ⟨rfl, m', hm, hI'⟩ := hq
    have hJ' : ∃ m, J (actD n e' ds') w' m := ⟨m', e', rfl, hI'⟩
    refine ⟨hJ', ?_⟩
    rw [hμ]
    have : μ (actD n e' ds') w' ≤ m' := by simp only [μ]; rw [dif_pos hJ']; exact (Classical.choose_spec (least hJ')).2 _ ⟨e', rfl, hI'⟩
    omega
  | _ => exact ⟨e', ds', rfl, hq⟩
end
section
variable {P : Program} {ro : Option Nat} {n : Nat} {ops : Array Oper} {ds : List Deferred}
theorem calls_R {f : FuncId} {args : Array Value} {w : World} {R : Ending → World → Prop} {k : Nat} (h : Calls P f args w R) : CallsIn (wR ro) k P f args w R :=
  ⟨trivial, fun cs _ => let ⟨e, w', fr, r, s, x⟩ := h cs; ⟨e, w', fr, r, (comesIn_wide (P := P)).2 s, x⟩⟩
theorem calls_of_R {f : FuncId} {args : Array Value} {w : World} {R : Ending → World → Prop} {k : Nat} (h : CallsIn (wR ro) k P f args w R) : Calls P f args w R :=
  fun cs => let ⟨e, w', fr, r, s, x⟩ := h.2 cs (fun _ h => by cases h); ⟨e, w', fr, r, s.comes, x⟩
theorem rows_R {row : String} {args : Array Value} {w : World} {R : Value → World → Prop} {k : Nat} (h : Rows P row args w R) : RowsIn (wR ro) k P row args w R :=
  fun c cs _ => let ⟨v, w', r, s⟩ := h c cs; ⟨v, w', r, (stepsIn_wide (P := P)).2 s⟩
theorem resolve_ok {ρ : Operand → Value} {c : Call} {ty : TypeId} {w w' : World} {x : Halt} (h : (resolve ρ c ty).run P w = .halt x w') (v : Value) : x ≠ .panic v := by
  unfold resolve at h
  simp only at h
  split at h
  · cases h
  · cases h
  · rename_i f _
    unfold Deferred.ofValue at h
    split at h
    · cases h
    · cases h
    · rintro rfl; cases h
theorem op_D {o : Oper} {a : Act} {w : World} {K K' : Act → World → Prop} {Q0 Q1 : Exit → Act → World → Prop} (hK : ∀ a w, K a w → a.defers = [] ∧ K' { a with defers := ds } w)
    (hQ : ∀ c a w, Q0 (.panic c) a w → a.defers = [] ∧ Q1 (.panic c) { a with defers := ds } w) (hno : LetsOut Q0 → False) (h : o.wp P a w K Q0) : a.defers = [] ∧ o.wpIn (wR ro) 0 P { a with defers := ds } w K' Q1 := by
  unfold Oper.wp at h
  unfold Oper.wpIn
  rw [eval_ds]
  have hp : ∀ (d : Option Tmp) v w', K (a.put d v) w' → a.defers = [] ∧ K' (({ a with defers := ds } : Act).put d v) w' := fun d v w' h => by
    have := hK _ _ h
    rw [put_defers] at this
    rw [put_ds]; exact this
  have hsem : ∀ c, o.op ≠ .defer c := by
    intro c hc
    have he : execOp a.eval o = (do pure (.defer (← resolve a.eval c o.type)) : Sem Next) := by unfold execOp; rw [hc]
    rw [he, Sem.run_bind] at h
    cases hr : (resolve a.eval c o.type).run P w with
    | ok d w' =>
      rw [hr] at h
      simp only [Result.andThen_ok, Sem.run_pure, Oper.upon] at h
      have := (hK _ _ h).1
      rw [put_defers] at this
      cases this
    | halt x w' =>
      rw [hr] at h
      cases x with
      | panic v => exact resolve_ok hr v rfl
      | _ => exact h.elim
  rw [show o.semAt (wR ro).round a.eval = execOp a.eval o from Oper.semAt_eq _ _ _ hsem]
  generalize (execOp a.eval o).run P w = r at h ⊢
  cases r with
  | ok x w' =>
    cases x with
    | value v => exact ⟨(hp _ _ _ h).1, fun _ _ => trivial, (hp _ _ _ h).2⟩
    | skip => exact ⟨(hp _ _ _ h).1, fun _ _ => trivial, (hp _ _ _ h).2⟩
    | defer d => have := (hK _ _ h).1; rw [put_defers] at this; cases this
    | enter f args =>
      have h' : Calls P f args w' (fun
          | .returned v, w'' => K (a.put o.dst v) w''
          | .panicked chain, w'' => Q0 (.panic chain) a w''
          | .outgrown, _ => LetsOut Q0) := h
      obtain ⟨e, w'', fr, hR, _⟩ := h' []
      refine ⟨?_, fun _ _ => trivial, ?_⟩
      · cases e with
        | returned v => exact (hp _ _ _ hR).1
        | panicked c => exact (hQ _ _ _ hR).1
        | outgrown => exact (hno hR).elim
      · rw [Oper.uponIn_enter]
        refine ⟨fun h => (by cases h), calls_R (h'.mono ?_)⟩
        intro e w3 he
        cases e with
        | returned v => exact (hp _ _ _ he).2
        | panicked c => exact (hQ _ _ _ he).2
        | outgrown => exact (hno he).elim
    | row row args =>
      have h' : Rows P row args w' (fun v w'' => K (a.put o.dst v) w'') := h
      obtain ⟨v, w'', hR, _⟩ := h' default []
      refine ⟨(hp _ _ _ hR).1, fun _ _ => trivial, ?_⟩
      rw [Oper.uponIn_row]
      exact ⟨fun h => (by cases h), rows_R (h'.mono fun v w3 he => (hp _ _ _ he).2)⟩
    | _ => exact h.elim
  | halt x w' =>
    cases x with
    | panic v => exact ⟨(hQ _ _ _ h).1, fun _ _ => trivial, (hQ _ _ _ h).2⟩
    | _ => exact h.elim
variable {Q : PostD}
/-- a list of operations, the last ones of which are walked otherwise -/
theorem list_D {Q2 : Post} {l2 : List Oper} (hN : ∀ e w, Q2 .normal e w → wpListIn (wR ro) 0 P ops (liftD n Q) l2 (actD n e ds) w) (hP : ∀ c e w, Q2 (.panic c) e w → Q (.panic c) e ds w) (hno : ∀ e w, Q2 .outgrown e w → False) :
    ∀ (l : List Oper) (a : Act) (w : World), wpList P ops (lift n Q2) l a w → a.defers = [] ∧ wpListIn (wR ro) 0 P ops (liftD n Q) (l ++ l2) { a with defers := ds } w
  | [], a, w, h => by
    obtain ⟨e, rfl, h⟩ := h
    exact ⟨rfl, hN _ _ h⟩
  | o :: l, a, w, h => by
    have hno' : LetsOut (lift n Q2) → False := fun ⟨_, _, e, _, h⟩ => hno e _ h
    simp only [List.cons_append]
    unfold wpList at h
    unfold wpListIn
    by_cases hw : Region.wanted o (yielded ops a.tmps) = true
    · rw [if_pos hw] at h
      rw [if_pos hw]
      rcases h with h | h
      · exact op_D (fun a w h => list_D hN hP hno l a w h) (fun c a w h => by obtain ⟨e, rfl, h⟩ := h; exact ⟨rfl, e, ds, rfl, hP _ _ _ h⟩) hno' h
      · exact (hno' h.2).elim
    · rw [if_neg hw] at h
      rw [if_neg hw]
      have := list_D hN hP hno l _ w h
      rw [put_defers] at this
      rw [put_ds]
      exact ⟨this.1, fun _ _ => trivial, this.2⟩
theorem dregion {id : Nat} {e : Env} {w : World} (h : VL P n ops (fun x e' w' => Q x e' ds w') ops.toList e w) (hno : ∀ e w, Q .outgrown e ds w → False := by exact fun _ _ h => h) : VD P ro n (.region id ops false) Q e ds w := by
  unfold VL at h
  have := (list_D (ro := ro) (Q := Q) (ds := ds) (Q2 := fun x e' w' => Q x e' ds w') (l2 := []) (fun e w h => ⟨e, ds, rfl, h⟩) (fun _ _ _ h => h) hno ops.toList (act n e) w h).2
  rw [List.append_nil] at this
  exact wpIn_region_list this
end
section
variable {P : Program} {ro : Option Nat} {n : Nat} {ops : Array Oper} {Q : PostD} {e : Env} {ds : List Deferred} {w : World} {o : Oper} {rest l : List Oper}
/-- a list of operations one of which may be a call of yield -/
def VI (P : Program) (ro : Option Nat) (n : Nat) (ops : Array Oper) (Q : PostD) (ds : List Deferred) (l : List Oper) (e : Env) (w : World) : Prop := wpListIn (wR ro) 0 P ops (liftD n Q) l (actD n e ds) w
theorem iregion {id : Nat} (h : VI P ro n ops Q ds ops.toList e w) : VD P ro n (.region id ops false) Q e ds w := wpIn_region_list h
def icutQ (P : Program) (ro : Option Nat) (n : Nat) (ops : Array Oper) (Q : PostD) (ds : List Deferred) (l : List Oper) : Post
  | .normal, e, w => VI P ro n ops Q ds l e w
  | .panic c, e, w => Q (.panic c) e ds w
  | _, _, _ => False
theorem icut (k : Nat) (h : VL P n ops (icutQ P ro n ops Q ds (l.drop k)) (l.take k) e w) : VI P ro n ops Q ds l e w := by
  unfold VL at h
  have := (list_D (ro := ro) (Q := Q) (ds := ds) (l2 := l.drop k) (Q2 := icutQ P ro n ops Q ds (l.drop k)) (fun e w h => h) (fun _ _ _ h => h) (fun _ _ h => h) (l.take k) (act n e) w h).2
  rw [List.take_append_drop] at this
  exact this
theorem icutN (h : VI P ro n ops Q ds l e w) : icutQ P ro n ops Q ds l .normal e w := h
/-- no call of yield is left -/
theorem iall (h : VL P n ops (fun x e' w' => Q x e' ds w') l e w) (hno : ∀ e w, Q .outgrown e ds w → False := by exact fun _ _ h => h) : VI P ro n ops Q ds l e w := by
  unfold VL at h
  have := (list_D (ro := ro) (Q := Q) (ds := ds) (Q2 := fun x e' w' => Q x e' ds w') (l2 := []) (fun e w h => ⟨e, ds, rfl, h⟩) (fun _ _ _ h => h) hno l (act n e) w h).2
  rw [List.append_nil] at this
  exact this
end
/-! ### Drawn regions -/
section
variable {P : Program} {ro : Option Nat} {n : Nat} {ops : Array Oper} {ds : List Deferred} {md : Region.Mode} {w0 w : World} {S : Nat → Option (Value → World → Prop)} {e : Env} {Q : Act → World → Prop} {QD : PostD}
theorem anyIn_of_seq {F : Fence} {k0 : Nat} {Q' : Exit → Act → World → Prop} : ∀ (l : List Oper) (k : Nat) (listed : Array Bool) (a : Act) (w : World), (∀ j, l[j]? = ops[k + j]?) →
    Region.seqB md ops l.length k listed = true → wpListIn F k0 P ops Q' l a w → wpAnyIn F k0 P md ops Q' l.length listed a w
  | [], _, _, _, _, _, hB, h => ⟨by simpa [Region.seqB] using hB, h⟩
  | o :: l, k, listed, a, w, hl, hB, h => by
    have h0 : ops[k]? = some o := by simpa using (hl 0).symm
    simp only [List.length_cons, Region.seqB, Bool.and_eq_true, decide_eq_true_eq] at hB
    refine ⟨fun h1 => (by rw [hB.1] at h1; cases h1), fun i hi => ?_⟩
    rw [hB.1] at hi
    have hik : i = k := by simpa using hi
    subst hik
    have hw : wpOpIn F k0 P ops Q' i (wpListIn F k0 P ops Q' l) a w := by unfold wpOpIn; simp only [h0]; exact h
    exact wpOpIn_mono (fun a' w' h' => anyIn_of_seq l (i + 1) _ a' w' (fun j => by have := hl (j + 1); simpa [Nat.add_assoc, Nat.add_comm 1 j] using this) hB.2 h') hw
theorem nodefer_of {o : Oper} {a : Act} {w w' : World} {x : Next} (h : (execOp a.eval o).run P w = .ok x w') (hx : ∀ d, x ≠ .defer d) : ∀ c, o.op ≠ .defer c := by
  intro c hc
  have he : execOp a.eval o = (do pure (.defer (← resolve a.eval c o.type)) : Sem Next) := by unfold execOp; rw [hc]
  rw [he, Sem.run_bind] at h
  cases hr : (resolve a.eval c o.type).run P w with
  | ok d w2 =>
    rw [hr] at h
    simp only [Result.andThen_ok, Sem.run_pure] at h
    cases h
    exact hx _ rfl
  | halt y w2 => rw [hr] at h; cases h
theorem in_of_still1 {o : Oper} {a : Act} {w : World} {v : Value} {K : Act → World → Prop} {Q' : Exit → Act → World → Prop} (h : still1 P o a w v) (hK : K { a.put o.dst v with defers := ds } w) : o.wpIn (wR ro) 0 P { a with defers := ds } w K Q' := by
  unfold Oper.wpIn
  refine ⟨fun _ _ => trivial, ?_⟩
  rw [eval_ds]
  rcases h with h | ⟨h, rfl⟩
  · rw [show o.semAt (wR ro).round a.eval = execOp a.eval o from Oper.semAt_eq _ _ _ (nodefer_of h (fun _ h => by cases h)), h, Oper.uponIn_value, put_ds]; exact hK
  · rw [show o.semAt (wR ro).round a.eval = execOp a.eval o from Oper.semAt_eq _ _ _ (nodefer_of h (fun _ h => by cases h)), h, Oper.uponIn_skip, put_ds]; exact hK
theorem in_of_grows1 {o : Oper} {a : Act} {w : World} {p : Value → World → Prop} {K : Act → World → Prop} {Q' : Exit → Act → World → Prop} (h : grows1 P o a w p) (hK : ∀ v w', Gr w w' → p v w' → K { a.put o.dst v with defers := ds } w') : o.wpIn (wR ro) 0 P { a with defers := ds } w K Q' := by
  unfold Oper.wpIn
  refine ⟨fun _ _ => trivial, ?_⟩
  rw [eval_ds]
  rcases h with ⟨v, w', h, g, hp⟩ | ⟨f, args, h, hc⟩
  · rw [show o.semAt (wR ro).round a.eval = execOp a.eval o from Oper.semAt_eq _ _ _ (nodefer_of h (fun _ h => by cases h)), h, Oper.uponIn_value, put_ds]; exact hK _ _ g hp
  · rw [show o.semAt (wR ro).round a.eval = execOp a.eval o from Oper.semAt_eq _ _ _ (nodefer_of h (fun _ h => by cases h)), h]
    rw [Oper.uponIn_enter]
    exact ⟨fun h => (by cases h), calls_R (hc.mono fun e w' ⟨v, he, g, hp⟩ => by subst he; simp only [put_ds]; exact hK _ _ g hp)⟩
theorem anyIn_of_G {N g : Nat} {E : Array Bool → Prop} {Q' : Exit → Act → World → Prop} (hS : Mono S) (hQ : ∀ listed a w, E listed → Q a w → wpAnyIn (wR ro) 0 P md ops Q' g listed { a with defers := ds } w) : ∀ (fuel : Nat) (listed : Array Bool) (H : Hist) (a : Act) (w : World), HMono H → Gr w0 w → (∀ i, H i w) →
    wpAnyG P md ops w0 S N E Q fuel listed H a → wpAnyIn (wR ro) 0 P md ops Q' (fuel + g) listed { a with defers := ds } w
  | 0, _, _, _, w, _, gr, hw, h => by rw [Nat.zero_add]; exact hQ _ _ _ (h ⟨w, gr, hw⟩).1 ((h ⟨w, gr, hw⟩).2 w gr hw)
  | fuel + 1, listed, H, a, w, hH, gr, hw, h => by
    have h1 := h ⟨w, gr, hw⟩
    rw [show fuel + 1 + g = (fuel + g) + 1 by omega]
    refine ⟨fun h0 => absurd h0 h1.1, fun i hi => ?_⟩
    have h2 := (h1.2 i hi).2
    unfold gOp at h2
    unfold wpOpIn
    split
    · rename_i ho; simp only [ho] at h2; exact anyIn_of_G hS hQ fuel _ _ _ _ hH gr hw h2
    · rename_i o ho
      simp only [ho] at h2
      by_cases hwn : Region.wanted o (yielded ops a.tmps) = true
      · rw [if_pos hwn] at h2
        rw [if_pos (show Region.wanted o (yielded ops ({ a with defers := ds } : Act).tmps) = true from hwn)]
        cases hsk : S i with
        | none =>
          simp only [hsk] at h2
          obtain ⟨v, h3, h4⟩ := h2
          exact in_of_still1 (h3 w (Inh.K ⟨gr, hw⟩)) (anyIn_of_G hS hQ fuel _ _ _ _ hH gr hw h4)
        | some p =>
          simp only [hsk] at h2
          exact in_of_grows1 (h2.1 w (Inh.K ⟨gr, hw⟩)) fun v w' g' hp => anyIn_of_G hS hQ fuel _ _ _ _ (hH.add (hS i p hsk v)) (Gr.trans gr g') (fun k => ⟨hH k _ _ g' (hw k), fun _ => hp⟩) (h2.2 v)
      · rw [if_neg hwn] at h2
        rw [if_neg (show ¬ Region.wanted o (yielded ops ({ a with defers := ds } : Act).tmps) = true from hwn), put_ds]
        exact ⟨fun _ _ => trivial, anyIn_of_G hS hQ fuel _ _ _ _ hH gr hw h2⟩
theorem ddrawGT {id : Nat} {l : List Oper} (N : Nat) (S : Nat → Option (Value → World → Prop)) (hm : P.follows .mixedOrders = true) (hB : Region.lexTailB .any l.toArray N = true) (hS : Mono S)
    (h : VG P n l.toArray w S (fun e' w' => VI P ro n l.toArray QD ds (l.drop N) e' w') (l.take N) 0 H0 e) : VD P ro n (.region id l.toArray true) QD e ds w := by
  refine wpIn_region_any hm ?_
  simp only [Region.lexTailB, Bool.and_eq_true, decide_eq_true_eq] at hB
  obtain ⟨⟨⟨⟨hsel, hn⟩, hs⟩, hc⟩, hlex⟩ := hB
  have hn' : N < l.length := by simpa using hn
  have htl : (l.take N).length = N := by simp; omega
  have hdl : (l.drop N).length = l.toArray.size - N := by simp
  have hE : ∀ listed, Region.seqB .any l.toArray (l.toArray.size - N) N listed = true → ∀ j ∈ Region.ready .any l.toArray listed, N ≤ j := fun listed h => seqB_ready h
  have hW : ∀ listed, HeadInv .any l.toArray N listed → ∀ i, i < N → listed.getD i true = false → ∀ j ∈ Region.ready .any l.toArray listed, j < N := fun listed inv i hi hun j hj => by
    rcases Nat.lt_or_ge j N with h1 | h1
    · exact h1
    · exact absurd hj (tail_waits hs hc hn inv _ i rfl hi hun j h1)
  unfold VG at h
  have hg := wpAnyG_lex (E := fun ls => Region.seqB .any l.toArray (l.toArray.size - N) N ls = true) (E0 := fun k ls => Region.seqB .any l.toArray (l.toArray.size - N) k ls) (fun _ h => h) hE hW hS hsel (l.take N) 0 (Array.replicate l.toArray.size false) H0 (act n e) (fun j hj => by
    have hj' : j < N := by rw [htl] at hj; exact hj
    simp [hj']) (by rw [htl]; simp) (fun _ _ _ _ h => h) (head0 _ _ _) (by rw [← lexG_head, htl]; exact hlex) h
  have := anyIn_of_G (ro := ro) (ds := ds) (g := l.toArray.size - N) (Q' := liftD n QD) hS (fun ls a w' h1 h2 => by
    obtain ⟨e', rfl, h3⟩ := h2
    unfold VI at h3
    have := anyIn_of_seq (md := .any) (Q' := liftD n QD) (l.drop N) N ls (actD n e' ds) w' (fun j => by simp [List.getElem?_drop]) (by rw [hdl]; exact h1) h3
    rwa [hdl] at this) _ _ _ _ w.drew (fun _ _ _ _ h => h) (gr_drew w) (fun _ => trivial) hg
  rw [htl, show N + (l.toArray.size - N) = l.toArray.size by omega] at this
  exact this
end
/-! ### An object of the heap that is no cells -/
def ObjAt (w : World) (k : Nat) (o : Obj) : Prop := w.heap[k]? = some o
section
variable {w w' : World} {k : Nat} {o : Obj}
theorem ObjAt.lt (h : ObjAt w k o) : k < w.heap.size := (Array.getElem?_eq_some_iff.1 h).1
theorem ObjAt.gr (h : ObjAt w k o) (f : Gr w w') : ObjAt w' k o := (f.block k h.lt (by simp)).trans h
theorem ObjAt.mv1 {i : Nat} (h : ObjAt w k o) (f : Fr [i] w w') (hn : i ≠ k) : ObjAt w' k o := (f.block k h.lt (by simp; exact fun h => hn h.symm)).trans h
theorem ObjAt.bl {b : Nat} (h : ObjAt w k o) (f : Bl b w w') (hn : k < b) : ObjAt w' k o := (f.block k hn).trans h
theorem fr_putObj (w : World) (k : Nat) (o : Obj) : Fr [k] w (w.putObj k o) := ⟨rfl, rfl, rfl, by simp, fun i _ hn => World.putObj_heap_other (by simpa using hn)⟩
theorem ObjAt.put (h : ObjAt w k o) (o' : Obj) : ObjAt (w.putObj k o') k o' := World.putObj_heap_same h.lt
end
/-! ### The statement, its rounds, the iterator -/
def markD (d : Nat) : Deferred := { target := .collected d, args := #[] }
def jumpQ (Q : PostD) (c : Code) (e : Env) (ds : List Deferred) (w : World) : Prop := match c with
  | .ret => Q .ret e ds w
  | .exit i => Q (.exit i) e ds w
  | _ => False
/-- what is asked when the iterator has returned -/
def IterEnd (Q : PostD) (e : Env) (ds : List Deferred) (d l : Nat) (r : LoopState → Option Code → Loop) (w : World) : Prop :=
  (ObjAt w l (.loop (r .ready none)) ∧ ∀ w', Fr [l] w w' → Q .normal e (markD d :: ds) w') ∨ ∃ c, ObjAt w l (.loop (r .done (some c))) ∧ ∀ w', Fr [l] w w' → jumpQ Q c e (markD d :: ds) w'
section
variable {P : Program} {n : Nat} {Q : PostD} {e : Env} {ds : List Deferred} {w : World} {d l : Nat} {r : LoopState → Option Code → Loop}
theorem iterN (F : ObjAt w l (.loop (r .ready none))) (h : ∀ w', Fr [l] w w' → Q .normal e (markD d :: ds) w') : IterEnd Q e ds d l r w := .inl ⟨F, h⟩
theorem gr_two (w : World) (o o' : Obj) : Gr w ((w.alloc o).alloc o') := Gr.trans (gr_alloc w o) (gr_alloc _ o')
theorem rangeF {g : Operand} {ps : Array Tmp} {assign body : Code} {k : Nat} {first cap : List Value} (hg : evn n e g = some (.func (.func k) first.toArray cap.toArray)) (hk : Callable P k)
    (h : ∀ (fn : FuncId) (r : LoopState → Option Code → Loop) (d l : Nat) (w1 : World), (∀ st pe, r st pe = { state := st, pending := pe, fn := fn, tmps := (act n e).tmps, params := ps, assign := assign, body := body, defers := d }) → Gr w w1 → w.heap.size = d → d + 1 = l → l + 1 = w1.heap.size →
      ObjAt w1 d (.deferred (some [])) → ObjAt w1 l (.loop (r .ready none)) → CallsIn (wR none) 0 P k (first ++ (.func (.yield l) #[] #[] :: cap)).toArray w1 (fun x w2 => ∃ v, x = .returned v ∧ IterEnd Q e ds d l r w2)) : VD P none n (.rangeFunc g ps assign body) Q e ds w := by
  obtain ⟨fn, hf, hnm, hb⟩ := hk
  have hnm' : ¬ fn.name = "runtime.NumGoroutine" := by simpa using hnm
  have hb' : ¬ fn.body = none := by intro h0; rw [h0] at hb; cases hb
  refine wpIn_rangeFunc fun f0 _ => ?_
  obtain ⟨r, hr⟩ : ∃ r : LoopState → Option Code → Loop, ∀ st pe, r st pe = { state := st, pending := pe, fn := f0, tmps := (act n e).tmps, params := ps, assign := assign, body := body, defers := w.heap.size } := ⟨fun st pe => _, fun _ _ => rfl⟩
  obtain ⟨w1, hw1⟩ : ∃ w1, (w.alloc (.deferred (some []))).alloc (.loop (r .ready none)) = w1 := ⟨_, rfl⟩
  have hL : ObjAt w1 (w.heap.size + 1) (.loop (r .ready none)) := by
    rw [← hw1]; have := World.alloc_heap_new (w.alloc (.deferred (some []))) (.loop (r .ready none)); rwa [World.size_alloc] at this
  have hD : ObjAt w1 w.heap.size (.deferred (some [])) := by
    rw [← hw1]; exact (Go.RowKit.Below.heap_alloc _ _ _ (by simp)).trans (World.alloc_heap_new w _)
  have hcall := h f0 r w.heap.size (w.heap.size + 1) w1 hr (by rw [← hw1]; exact gr_two _ _ _) rfl rfl (by rw [← hw1]; simp) hD hL
  have hev : (actD n e ds).eval g = .func (.func k) first.toArray cap.toArray := by rw [actD_eval]; exact evn_eval hg
  refine ⟨w.heap.size + 1, [markD w.heap.size], w1, { target := .fn (.func k) cap.toArray, args := first.toArray ++ #[.func (.yield (w.heap.size + 1)) #[] #[]] }, w1, k, first.toArray ++ #[.func (.yield (w.heap.size + 1)) #[] #[]] ++ cap.toArray, w1, ?_, ?_, fun _ _ => trivial, ?_, (fun h => by cases h), ?_⟩
  · rw [← hw1, hr]; exact run_enterLoop_outer _ _ _ _ _
  · simp only [resolve, hev, Deferred.ofValue]
    simp [Act.eval]
  · simp [invoke, callFunc, hf, hnm', hb']
  · have e1 : first.toArray ++ #[.func (.yield (w.heap.size + 1)) #[] #[]] ++ cap.toArray = (first ++ (.func (.yield (w.heap.size + 1)) #[] #[] :: cap)).toArray := by simp
    rw [e1]
    refine hcall.mono ?_
    rintro x w2 ⟨v, rfl, hq | ⟨c, hL2, hq⟩⟩
    · have := run_endLoop (P := P) hq.1 (by rw [hr]; simp)
      refine ⟨none, _, by rw [this, hr], e, _, rfl, hq.2 _ (fr_putObj _ _ _)⟩
    · have := run_endLoop (P := P) hL2 (by rw [hr]; simp)
      refine ⟨some c, _, by rw [this, hr], ?_⟩
      have hq' : ∀ o, jumpQ Q c e (markD w.heap.size :: ds) (w2.putObj (w.heap.size + 1) o) := fun o => hq _ (fr_putObj _ _ o)
      cases c with
      | ret => exact wpIn_ret ⟨e, _, rfl, hq' _⟩
      | exit i => exact wpIn_exit ⟨e, _, rfl, hq' _⟩
      | _ => exact (hq' (.deferred none)).elim
def dfinR (P : Program) (n : Nat) (fn : Func) (Φ : Value → World → Prop) (e : Env) (w : World) : List Deferred → Prop
  | [] => fin P n fn Φ .ret e w
  | m :: ds => ds = [] ∧ ∃ d, m = markD d ∧ ObjAt w d (.deferred (some [])) ∧ ∀ w', Fr [d] w w' → fin P n fn Φ .ret e w'
def dfin (P : Program) (n : Nat) (fn : Func) (Φ : Value → World → Prop) : PostD
  | .ret, e, ds, w | .normal, e, ds, w => dfinR P n fn Φ e w ds
  | _, _, _, _ => False
theorem ddone0N {fn : Func} {Φ : Value → World → Prop} (h : fin P n fn Φ .ret e w) : dfin P n fn Φ .normal e [] w := h
theorem ddone1 {fn : Func} {Φ : Value → World → Prop} (F : ObjAt w d (.deferred (some []))) (h : ∀ w', Fr [d] w w' → fin P n fn Φ .ret e w') : dfin P n fn Φ .ret e [markD d] w := ⟨rfl, d, rfl, F, h⟩
theorem ofArgs_act {fn : Func} {args : List Value} (hl' : args.length ≤ fn.ntmps) : ({ tmps := args.toArray ++ Array.replicate (fn.ntmps - args.toArray.size) undef, defers := [] } : Act) = act fn.ntmps (ofArgs args) := by
  unfold act
  congr 1
  apply Array.ext
  · simp; omega
  · intro i h1 h2
    simp only [Array.getElem_ofFn, ofArgs]
    by_cases hi : i < args.length
    · rw [Array.getElem_append_left (by simpa using hi)]; simp [List.getD, hi]
    · rw [Array.getElem_append_right (by simpa using hi)]; simp [List.getD, hi]
theorem denterIn {f : Nat} {fn : Func} {c : Code} {args : List Value} {Φ : Value → World → Prop} (hf : P.funcs[f]? = some fn) (hb : fn.body = some c) (hn : fn.ntmps = n) (hl : Nat.ble args.length n = true)
    (h : VD P none n c (dfin P n fn Φ) (ofArgs args) [] w) : CallsIn (wR none) 0 P f args.toArray w (fun x w' => ∃ v, x = .returned v ∧ Φ v w') := by
  subst hn
  refine callsIn_of_wp_marks hf hb trivial ?_
  rw [ofArgs_act (Nat.le_of_ble_eq_true hl)]
  refine wpIn_mono h ?_
  rintro x a w' ⟨e, ds, rfl, hq⟩
  have key : ∀ ds, dfinR P fn.ntmps fn Φ e w' ds → LeavesInM (wR none) 0 P fn (act fn.ntmps e).tmps (fun x w' => ∃ v, x = .returned v ∧ Φ v w') ds .returning w' := by
    intro ds hq
    cases ds with
    | nil => obtain ⟨v, h1, h2⟩ := hq; exact ⟨v, h1, v, rfl, h2⟩
    | cons m ds =>
      obtain ⟨rfl, d, rfl, hd, hq⟩ := hq
      refine ⟨by simp, .inl ⟨d, _, rfl, run_takeDeferred hd, ?_⟩⟩
      obtain ⟨v, h1, h2⟩ := hq _ (fr_putObj w' d (.deferred none))
      exact ⟨v, h1, v, rfl, h2⟩
  cases x with
  | ret => exact key _ hq
  | normal => exact key _ hq
  | _ => exact hq.elim
theorem denter {f : Nat} {fn : Func} {c : Code} {args : List Value} {Φ : Value → World → Prop} (hf : P.funcs[f]? = some fn) (hb : fn.body = some c) (hn : fn.ntmps = n)
    (hnm : (fn.name == "runtime.NumGoroutine") = false) (hl : Nat.ble args.length n = true) (h : VD P none n c (dfin P n fn Φ) (ofArgs args) [] w) : Meets P f args w Φ :=
  ⟨⟨fn, hf, hnm, by rw [hb]; rfl⟩, calls_of_R (denterIn hf hb hn hl h)⟩
theorem callable {f : Nat} {fn : Func} {c : Code} (hf : P.funcs[f]? = some fn) (hb : fn.body = some c) (hnm : (fn.name == "runtime.NumGoroutine") = false) : Callable P f := ⟨fn, hf, hnm, by rw [hb]; rfl⟩
end
section
variable {P : Program} {ro : Option Nat} {n : Nat} {ops : Array Oper} {Q : PostD} {e : Env} {ds : List Deferred} {w : World} {o : Oper} {rest l : List Oper}
/-- what is asked at the end of a round -/
def roundQ (K : Bool → World → Prop) (l : Nat) (r : LoopState → Option Code → Loop) : PostD
  | .normal, _, _, w => ObjAt w l (.loop (r .busy none)) ∧ ∀ w', Fr [l] w w' → ObjAt w' l (.loop (r .ready none)) → K true w'
  | .ret, _, _, w => ObjAt w l (.loop (r .busy none)) ∧ ∀ w', Fr [l] w w' → ObjAt w' l (.loop (r .done (some .ret))) → K false w'
  | .exit i, _, _, w => ObjAt w l (.loop (r .busy none)) ∧ ∀ w', Fr [l] w w' → ObjAt w' l (.loop (r .done (some (.exit i)))) → K false w'
  | _, _, _, _ => False
def beginQ (P : Program) (n : Nat) (body : Code) (K : Bool → World → Prop) (l : Nat) (r : LoopState → Option Code → Loop) : PostD
  | .normal, e, ds, w => ds = [] ∧ ObjAt w l (.loop (r .ready none)) ∧ ∀ w', Fr [l] w w' → ObjAt w' l (.loop (r .busy none)) → VD P (some l) n body (roundQ K l r) e [] w'
  | _, _, _, _ => False
def putPs : List Nat → List Value → Env → Env
  | p :: ps, v :: vs, e => putPs ps vs (e.set p v)
  | _, _, e => e
theorem putPs_tmps (n : Nat) : ∀ (ps : List Nat) (vs : List Value) (e : Env), (List.foldl (fun (t : Array Value) (x : Nat × Value) => t.setIfInBounds x.1 x.2) (act n e).tmps (ps.zip vs)) = (act n (putPs ps vs e)).tmps
  | [], vs, e => by simp [putPs]
  | p :: ps, [], e => by simp [putPs]
  | p :: ps, v :: vs, e => by
    simp only [List.zip_cons_cons, List.foldl_cons, putPs]
    have : (act n e).tmps.setIfInBounds p v = (act n (e.set p v)).tmps := by
      have := act_put n e (some p) v
      simp only [Act.put, put] at this
      exact congrArg Act.tmps this
    rw [this]; exact putPs_tmps n ps vs _
def yieldE (n : Nat) (e : Env) (o : Oper) : Option (Nat × List Value) := match o.op with
  | .call { callee := .value f, args := as, .. } => (match evn n e f, as.toList.mapM (evn n e) with
    | some (.func (.yield l) a b), some vs => bif a.isEmpty && b.isEmpty then some (l, vs) else none
    | _, _ => none)
  | _ => none
/-- a call of yield: one round -/
theorem iyield {m d l0 : Nat} {vs : List Value} {e0 : Env} {fn0 : FuncId} {ps : Array Tmp} {assign body : Code} {dd : Nat} {r : LoopState → Option Code → Loop} (hl : l = o :: rest) (hc : yieldE n e o = some (l0, vs)) (hg : o.guard = none) (hd : o.dst = some d)
    (hr : ∀ st pe, r st pe = { state := st, pending := pe, fn := fn0, tmps := (act m e0).tmps, params := ps, assign := assign, body := body, defers := dd }) (F : ObjAt w l0 (.loop (r .ready none))) (hs : Nat.beq vs.length ps.size = true)
    (h : VD P (some l0) m assign (beginQ P m body (fun b w' => VI P ro n ops Q ds rest (e.set d (.bool b)) w') l0 r) (putPs ps.toList vs e0) [] w) : VI P ro n ops Q ds l e w := by
  subst hl
  have hs' : vs.length = ps.size := Nat.eq_of_beq_eq_true hs
  unfold VI
  refine wpListIn_plain hg fun KK hK => ?_
  unfold Oper.wpIn
  have hrun : (execOp (actD n e ds).eval o).run P w = .ok (.round l0 fn0 (act m (putPs ps.toList vs e0)).tmps assign body) w := by
    unfold yieldE at hc
    split at hc
    · rename_i f as at_ hop
      split at hc
      · rename_i l' a b vs' h1 h2
        cases hab : a.isEmpty && b.isEmpty with
        | false => rw [hab] at hc; cases hc
        | true =>
        rw [hab] at hc
        simp only [Bool.and_eq_true, Array.isEmpty_iff] at hab
        obtain ⟨rfl, rfl⟩ := hab
        simp only [cond_true, Option.some.injEq, Prod.mk.injEq] at hc
        obtain ⟨rfl, rfl⟩ := hc
        have e1 := congrArg List.toArray (mapM_eval h2)
        simp only [← Array.toList_map, Array.toArray_toList] at e1
        have hev : (actD n e ds).eval = (act n e).eval := eval_ds (act n e) ds
        have hy := run_yield (P := P) (args := vs'.toArray) F (by rw [hr]; simpa using hs')
        simp only [execOp, hop, resolve, hev, evn_eval h1, e1, Deferred.ofValue, invoke]
        simp only [Sem.run_bind, Sem.run_pure, Result.andThen_ok]
        simp only [List.append_toArray, List.nil_append]
        rw [hy, hr]
        congr 2
        rw [← putPs_tmps]
        simp only [← Array.foldl_toList, Array.toList_zip]
      · cases hc
    · cases hc
  have hnd : ∀ c, o.op ≠ .defer c := by
    intro c hop
    unfold yieldE at hc
    rw [hop] at hc
    cases hc
  refine ⟨fun _ _ => trivial, ?_⟩
  rw [show o.semAt (wR ro).round (actD n e ds).eval = execOp (actD n e ds).eval o from Oper.semAt_eq _ _ _ hnd, hrun]
  refine ⟨fun h => (by cases h), ?_⟩
  have hput : ∀ (v : Value) w', VI P ro n ops Q ds rest (e.set d v) w' → KK ((actD n e ds).put o.dst v) w' := fun v w' h => by
    refine hK _ _ ?_
    have : (actD n e ds).put o.dst v = actD n (e.set d v) ds := by
      rw [hd]; show ({ act n e with defers := ds } : Act).put (some d) v = _
      rw [put_ds, act_put]; rfl
    rw [this]; exact h
  refine roundIn_of_wpIn (F := wR ro) (l := l0) trivial ?_
  refine wpIn_mono (F := wR (some l0)) h ?_
  rintro x a w1 ⟨e1, ds1, rfl, hq⟩
  cases x with
  | normal =>
    obtain ⟨rfl, F1, hq⟩ := hq
    refine ⟨_, run_beginRound F1 (by rw [hr]), ?_⟩
    have hb : ∀ st pe, ({ r st pe with state := .busy } : Loop) = r .busy pe := fun st pe => by rw [hr, hr]
    have F2 := F1.put (.loop { r .ready none with state := .busy })
    rw [hb] at F2 ⊢
    refine wpIn_mono (F := wR (some l0)) (hq _ (fr_putObj _ _ _) F2) ?_
    rintro x a w3 ⟨e3, ds3, rfl, hq3⟩
    have fin : ∀ jump : Option Code, ObjAt w3 l0 (.loop (r .busy none)) → (Instr.endRound l0 jump).run P w3 = .ok (.bool jump.isNone) (w3.putObj l0 (.loop (r (if jump.isNone then .ready else .done) jump))) := fun jump F3 => by
      rw [run_endRound jump F3, hr, hr]
    cases x with
    | normal => obtain ⟨F3, hk⟩ := hq3; exact ⟨_, _, fin none F3, hput _ _ (hk _ (fr_putObj _ _ _) (F3.put _))⟩
    | ret => obtain ⟨F3, hk⟩ := hq3; exact ⟨_, _, fin (some .ret) F3, hput _ _ (hk _ (fr_putObj _ _ _) (F3.put _))⟩
    | exit i => obtain ⟨F3, hk⟩ := hq3; exact ⟨_, _, fin (some (.exit i)) F3, hput _ _ (hk _ (fr_putObj _ _ _) (F3.put _))⟩
    | _ => exact hq3.elim
  | _ => exact hq.elim
theorem roundN {K : Bool → World → Prop} {l0 : Nat} {r : LoopState → Option Code → Loop} (F : ObjAt w l0 (.loop (r .busy none))) (h : ∀ w', Fr [l0] w w' → ObjAt w' l0 (.loop (r .ready none)) → K true w') : roundQ K l0 r .normal e ds w := ⟨F, h⟩
theorem beginN {K : Bool → World → Prop} {m l0 : Nat} {r : LoopState → Option Code → Loop} {body : Code} (F : ObjAt w l0 (.loop (r .ready none))) (h : ∀ w', Fr [l0] w w' → ObjAt w' l0 (.loop (r .busy none)) → VD P (some l0) m body (roundQ K l0 r) e [] w') : beginQ P m body K l0 r .normal e [] w := ⟨rfl, F, h⟩
end
attribute [irreducible] VD VI
/-! ### Slices of slices each of which has its row for itself -/
section
variable {w w' : World} {D D' : Nat → Prop} {a : Option Addr} {c t k lo hi : Nat} {x : List UInt8} {xs : List (List UInt8)}
/-- a slice of bytes in a row of its own, that is D's -/
structure OwnS (t : Nat) (w : World) (D : Nat → Prop) (a : Option Addr) (c : Nat) (x : List UInt8) : Prop where
  ex : (a = none ∧ c = 0 ∧ x = []) ∨ ∃ g, D g ∧ Own Cod.byte t w None' g a c x
theorem OwnS.mv {S : List Nat} (h : OwnS t w D a c x) (f : Fr S w w') (hs : ∀ i, i ∈ S → ¬ D i) : OwnS t w' D a c x :=
  ⟨h.ex.imp id fun ⟨g, h1, h2⟩ => ⟨g, h1, h2.mv f (fun i hi e => hs i hi (e ▸ h1)) (fun _ _ h => h)⟩⟩
theorem OwnS.mono (h : OwnS t w D a c x) (h1 : ∀ k, D k → D' k) : OwnS t w D' a c x := ⟨h.ex.imp id fun ⟨g, h2, h3⟩ => ⟨g, h1 _ h2, h3⟩⟩
theorem OwnS.ofRow (h : Row Cod.byte t w None' lo hi a c x) : OwnS t w (In lo hi) a c x :=
  ⟨h.ex.imp id fun ⟨g, D, h1, h2, h3, h4, h5⟩ => ⟨g, ⟨h1, h2⟩, h5.flat flat_byte⟩⟩
theorem OwnS.sl (h : OwnS t w D a c x) : Sl Cod.byte w D a c x := by
  rcases h.ex with ⟨rfl, rfl, rfl⟩ | ⟨g, h1, h2⟩
  · exact Sl.nil _ _ _ _ _ (Nat.zero_le _)
  · exact h2.sl (fun _ h => h.elim) h1
theorem OwnS.own (h : OwnS t w D a c x) (hn : 0 < x.length) : ∃ g, D g ∧ Own Cod.byte t w None' g a c x := by
  rcases h.ex with ⟨rfl, rfl, rfl⟩ | h
  · simp at hn
  · exact h
def Cod.own (t : Nat) : Cod (List UInt8) where
  sz := 1
  R := fun w D x cs => ∃ a c, cs = [.slice a x.length c] ∧ OwnS t w D a c x
  len := by rintro w D x cs ⟨a, c, rfl, _⟩; rfl
  one := by rintro w D x cs ⟨a, c, rfl, _⟩ u hu; simp at hu; subst hu; rfl
  mv := by rintro S w w' D x cs ⟨a, c, rfl, h⟩ f hs; exact ⟨a, c, rfl, h.mv f hs⟩
  mono := by rintro w D D' x cs ⟨a, c, rfl, h⟩ h1; exact ⟨a, c, rfl, h.mono h1⟩
theorem Sl.ofOwn (h : Sl (Cod.own t) w D a c xs) : Sl Cod.byte.sl w D a c xs :=
  ⟨h.cap, h.max, fun hn => by
    obtain ⟨b, o, h1, h2, h4⟩ := h.els hn
    refine ⟨b, o, h1, h2, fun i hi => ?_⟩
    obtain ⟨cs, ⟨a', c', h5, h6⟩, h7⟩ := h4 i hi
    exact ⟨cs, ⟨a', c', h5, h6.sl⟩, h7⟩⟩
end
/-! ### Slices that are written out, in drawn regions -/
section
variable {P : Program} {n : Nat} {ops : Array Oper} {w : World} {S : Nat → Option (Value → World → Prop)} {Q : Env → World → Prop} {e : Env} {H : Hist} {q : Nat} {rest l : List Oper} {o : Oper} {d : Nat} {T : Tab} {α : Type} {C : Cod α}
def newSl {α : Type} (C : Cod α) (lo len : Nat) (xs : List α) (v : Value) (w : World) : Prop := ∃ k, v = .slice (some ⟨k, 0, none⟩) len len ∧ lo ≤ k ∧ k < w.heap.size ∧ Sl C w (In lo w.heap.size) (some ⟨k, 0, none⟩) xs.length xs
theorem newSl_mono {lo len : Nat} {xs : List α} : Mono1 (newSl C lo len xs) := fun _ _ _ g ⟨k, h1, h2, h3, h4⟩ => ⟨k, h1, h2, Nat.lt_of_lt_of_le h3 g.size, (h4.gr g).mono (In.sub (Nat.le_refl _) g.size)⟩
theorem newSl_get {lo len k : Nat} {xs : List α} {w : World} (h : newSl C lo len xs (.slice (some ⟨k, 0, none⟩) len len) w) : Sl C w (In lo w.heap.size) (some ⟨k, 0, none⟩) xs.length xs := by
  obtain ⟨_, he, _, _, F⟩ := h; cases he; exact F
theorem buildSlice_run (hT : tabB P T = true) {t e' len sz : Nat} {parts : Array (Nat × Operand)} {cs : List Value} {z : Value} {w : World} (hz : zeroT P e' = some z) (ho : o.op = .buildSlice t len parts) (ht : look T t = some (.sl e')) (hs : sizeT P e' = some sz) (hzs : Nat.beq (cellsL z).length sz = true)
    (hp : partsL n e sz 0 parts.toList = some cs) (hl : Nat.beq parts.toList.length len = true) (hb : Nat.ble (len * sz) 16777216 = true) :
    (execOp (act n e).eval o).run P w = .ok (.value (.slice (some ⟨w.heap.size, 0, none⟩) len len)) (w.alloc (.cells cs.toArray e')) := by
  have hl' := Nat.eq_of_beq_eq_true hl
  have hzs' := Nat.eq_of_beq_eq_true hzs
  have hb' : ¬ (len * sz > 2 ^ 24) := by have := Nat.le_of_ble_eq_true hb; omega
  simp only [execOp, ho]
  have hmap : ((parts.map fun p => (p.1, (act n e).eval p.2)).toList) = parts.toList.map fun p => (p.1, (act n e).eval p.2) := by simp
  have key : ∀ (zs : Array Value), zs.size = len * sz → Instr.fill (fun i => some (i * sz, sz)) zs ((parts.map fun p => (p.1, (act n e).eval p.2)).toList) = some cs.toArray := by
    intro zs hzs2
    rw [hmap]
    have := partsL_fill [] zs.toList hp (by simp) (by rw [Array.length_toList, hzs2, hl'])
    simpa using this
  have hfun : (parts.map fun x => match x with | (i, x) => (i, (act n e).eval x)) = parts.map fun p => (p.1, (act n e).eval p.2) := rfl
  refine run_value ?_
  rw [hfun]
  generalize hpv : (parts.map fun p => (p.1, (act n e).eval p.2)) = pv at key
  by_cases h0 : len * sz = 0
  · simp [Instr.buildSlice, run_underlying (look_sl hT ht), run_sizeOf' hs, h0, key, newRow, newObj, Sem.run]
  · simp [Instr.buildSlice, run_underlying (look_sl hT ht), run_sizeOf' hs, hb', h0, key, run_zero hz, newRow, newObj, Sem.run]
theorem gmkSlice (hT : tabB P T = true) {lo t e' len sz : Nat} {parts : Array (Nat × Operand)} {cs : List Value} {z : Value} {xs : List α} (hz : zeroT P e' = some z) (ho : o.op = .buildSlice t len parts) (ht : look T t = some (.sl e')) (hs : sizeT P e' = some sz) (hzs : Nat.beq (cellsL z).length sz = true)
    (hp : partsL n e sz 0 parts.toList = some cs) (hl : Nat.beq parts.toList.length len = true) (hg : o.guard = none) (hd : o.dst = some d) (hb : Nat.ble (len * sz) 16777216 = true) (hS : S q = some (newSl C lo len xs)) (hlo : lo ≤ w.heap.size)
    (hF : ∀ w', KQ .any ops w H q w' → ∀ w'', Gr w' w'' → w''.heap.size = w'.heap.size + 1 → Cells w'' w'.heap.size cs e' → Sl C w'' (In lo w''.heap.size) (some ⟨w'.heap.size, 0, none⟩) xs.length xs)
    (K : ∀ k, VG P n ops w S Q rest (q + 1) (H.add q (newSl C lo len xs (.slice (some ⟨k, 0, none⟩) len len))) (e.set d (.slice (some ⟨k, 0, none⟩) len len))) : VG P n ops w S Q (o :: rest) q H e := by
  refine ggrow hg hd hS (fun w' hw' => .inl ⟨_, _, buildSlice_run hT hz ho ht hs hzs hp hl hb, gr_alloc _ _, ⟨w'.heap.size, rfl, Nat.le_trans hlo hw'.1.size, by simp, hF w' hw' _ (gr_alloc _ _) (by simp) (cells_new _ _ _)⟩⟩) ?_
  rintro v w1 g1 g2 ⟨k, rfl, _⟩
  exact K k
end
/-! ### Frames and rows over sets of blocks -/
/-- from w to w' no block of w has turned but some of X -/
def FrE (X : Nat → Prop) (w w' : World) : Prop := ∃ S, Fr S w w' ∧ ∀ i, i ∈ S → X i
section
variable {P : Program} {α : Type} {C : Cod α} {w w' w'' : World} {X Y B B' D E E' : Nat → Prop} {lo hi t c k : Nat} {a : Option Addr} {xs ys : List α} {S : List Nat} {cs : List Value} {ob : Obj}
theorem FrE.size (G : FrE X w w') : w.heap.size ≤ w'.heap.size := let ⟨_, f, _⟩ := G; f.size
theorem FrE.ofGr (G : Gr w w') : FrE X w w' := ⟨[], G, fun _ h => by cases h⟩
theorem FrE.of1 {i : Nat} (G : Fr [i] w w') (h : X i) : FrE X w w' := ⟨[i], G, fun j hj => by simp at hj; subst hj; exact h⟩
theorem FrE.trans (G : FrE X w w') (H : FrE Y w' w'') : FrE (fun j => X j ∨ Y j) w w'' := by
  obtain ⟨S, f, hS⟩ := G
  obtain ⟨S', f', hS'⟩ := H
  exact ⟨S ++ S', Fr.trans f f', fun i hi => (List.mem_append.1 hi).imp (hS i) (hS' i)⟩
theorem FrE.mono (G : FrE X w w') (h : ∀ i, X i → i < w.heap.size → Y i) : FrE Y w w' := by
  obtain ⟨S, f, hS⟩ := G
  refine ⟨S.filter (fun i => decide (i < w.heap.size)), f.mono (fun i hi hl => ?_), fun i hi => ?_⟩
  · exact List.mem_filter.2 ⟨hi, by simpa using hl⟩
  · obtain ⟨h1, h2⟩ := List.mem_filter.1 hi
    exact h i (hS i h1) (by simpa using h2)
theorem Fr.stepE (h : Fr S w w') (G : FrE X w' w'') (hX : ∀ i, X i → i ∈ S ∨ w.heap.size ≤ i) : Fr S w w'' := by
  obtain ⟨S', f, hS⟩ := G
  exact Fr.new h f (fun i hi => hX i (hS i hi))
theorem Cells.mvE (h : Cells w k cs t) (G : FrE X w w') (hn : ¬ X k) : Cells w' k cs t := by
  obtain ⟨S, f, hS⟩ := G
  exact h.mv f (fun i hi e => hn (e ▸ hS i hi))
theorem Sl.mvE (h : Sl C w D a c xs) (G : FrE X w w') (hn : ∀ j, X j → ¬ D j) : Sl C w' D a c xs := by
  obtain ⟨S, f, hS⟩ := G
  exact h.mv f (fun i hi => hn i (hS i hi))
theorem Row.mvE (h : Row C t w B lo hi a c xs) (G : FrE X w w') (hn : ∀ j, X j → ¬ B j ∧ ¬ In lo hi j) : Row C t w' B lo hi a c xs := by
  obtain ⟨S, f, hS⟩ := G
  exact ⟨h.ex.imp id fun ⟨g, D, h1, h2, h3, h4, h5⟩ => ⟨g, D, h1, h2, h3, h4, h5.mv f (fun i hi e => (hn i (hS i hi)).2 (e ▸ ⟨h1, h2⟩)) (fun i hi hD => (h4 i hD).elim (hn i (hS i hi)).1 (hn i (hS i hi)).2)⟩⟩
theorem ObjAt.mvE (h : ObjAt w k ob) (G : FrE X w w') (hn : ¬ X k) : ObjAt w' k ob := by
  obtain ⟨S, f, hS⟩ := G
  exact (f.block k h.lt (fun hm => hn (hS k hm))).trans h
/-- The slice is nothing, or in a row of its own, a block of E's; what its elements lead to is E's too, or B's. -/
structure RowE {α : Type} (C : Cod α) (t : Nat) (w : World) (B E : Nat → Prop) (a : Option Addr) (c : Nat) (xs : List α) : Prop where
  ex : (a = none ∧ c = 0 ∧ xs = []) ∨ ∃ (g : Nat) (D : Nat → Prop), E g ∧ ¬ D g ∧ (∀ k, D k → B k ∨ E k) ∧ Own C t w D g a c xs
theorem RowE.nil : RowE C t w B E none 0 [] := ⟨.inl ⟨rfl, rfl, rfl⟩⟩
theorem RowE.gr (h : RowE C t w B E a c xs) (f : Gr w w') : RowE C t w' B E a c xs := ⟨h.ex.imp id fun ⟨g, D, h1, h3, h4, h5⟩ => ⟨g, D, h1, h3, h4, h5.gr f⟩⟩
theorem RowE.mvE (h : RowE C t w B E a c xs) (G : FrE X w w') (hn : ∀ j, X j → ¬ (B j ∨ E j)) : RowE C t w' B E a c xs := by
  obtain ⟨S, f, hS⟩ := G
  exact ⟨h.ex.imp id fun ⟨g, D, h1, h3, h4, h5⟩ => ⟨g, D, h1, h3, h4, h5.mv f (fun i hi e => hn i (hS i hi) (.inr (e ▸ h1))) (fun i hi hD => hn i (hS i hi) (h4 i hD))⟩⟩
theorem RowE.mv1 {i : Nat} (h : RowE C t w B E a c xs) (f : Fr [i] w w') (hn : ¬ (B i ∨ E i)) : RowE C t w' B E a c xs :=
  h.mvE (X := fun j => j = i) (FrE.of1 f rfl) (fun j hj => hj ▸ hn)
theorem RowE.bl {b : Nat} (h : RowE C t w B E a c xs) (f : Bl b w w') (hn : ∀ k, B k ∨ E k → k < b) : RowE C t w' B E a c xs :=
  ⟨h.ex.imp id fun ⟨g, D, h1, h3, h4, h5⟩ => ⟨g, D, h1, h3, h4, h5.bl f ⟨hn g (.inr h1), fun k hk => hn k (h4 k hk)⟩⟩⟩
theorem RowE.mono (h : RowE C t w B E a c xs) (hE : ∀ k, E k → E' k) : RowE C t w B E' a c xs :=
  ⟨h.ex.imp id fun ⟨g, D, h1, h3, h4, h5⟩ => ⟨g, D, hE g h1, h3, fun k hk => (h4 k hk).imp id (hE k), h5⟩⟩
theorem RowE.mono2 (h : RowE C t w B E a c xs) (hB : ∀ k, B k → B' k ∨ E' k) (hE : ∀ k, E k → E' k) : RowE C t w B' E' a c xs :=
  ⟨h.ex.imp id fun ⟨g, D, h1, h3, h4, h5⟩ => ⟨g, D, hE g h1, h3, fun k hk => (h4 k hk).elim (hB k) (fun h => .inr (hE k h)), h5⟩⟩
theorem RowE.slB (h : RowE C t w B E a c xs) : Sl C w (fun k => B k ∨ E k) a c xs := by
  rcases h.ex with ⟨rfl, rfl, rfl⟩ | ⟨g, D, h1, h3, h4, h5⟩
  · exact Sl.nil _ _ _ _ _ (Nat.zero_le _)
  · exact h5.sl h4 (.inr h1)
theorem RowE.sl (h : RowE C t w None' E a c xs) : Sl C w E a c xs := h.slB.mono fun _ h => h.elim False.elim id
theorem RowE.back {g : Nat} (F : Own C t w None' g a c xs) (h : E g) : RowE C t w None' E a c xs := ⟨.inr ⟨g, None', h, fun h => h, fun _ h => h.elim, F⟩⟩
theorem RowE.ofRow (h : Row C t w B lo hi a c xs) : RowE C t w B (In lo hi) a c xs :=
  ⟨h.ex.imp id fun ⟨g, D, h1, h2, h3, h4, h5⟩ => ⟨g, D, ⟨h1, h2⟩, h3, h4, h5⟩⟩
variable {n : Nat} {ops : Array Oper} {Q : Post} {e : Env} {rest l : List Oper} {o : Oper} {d : Nat} {T : Tab}
/-- something behind a row of one's own: its block, or a new one -/
theorem appendZ {D' : Nat → Prop} {tx bytes e' : Nat} {z : Value} {s x : Operand} {v : Value} (F1 : RowE C e' w B E a c xs) (F2 : From P C tx w D' v ys) (hE : ElemT P t tx C.sz bytes z e')
    (ho : o.op = .call { callee := .builtin .append, args := #[s, x], argTypes := #[t, tx] }) (hs : evn n e s = some (.slice a xs.length c)) (hx : evn n e x = some v) (hg : o.guard = none) (hd : o.dst = some d)
    (hb : (xs.length + ys.length) * bytes ≤ 140737488355328) (hm : xs.length + ys.length ≤ maxLen) (hEl : ∀ k, E k → k < w.heap.size) (hB : ∀ k, B k → k < w.heap.size ∧ ¬ E k) (hD' : ∀ k, D' k → k < w.heap.size ∧ ¬ E k)
    (K : ∀ a' c' w', FrE E w w' → w'.heap.size ≤ w.heap.size + 1 → RowE C e' w' (fun k => B k ∨ D' k) (fun k => E k ∨ In w.heap.size w'.heap.size k) a' c' (xs ++ ys) → VL P n ops Q rest (e.set d (.slice a' (xs ++ ys).length c')) w') : VL P n ops Q (o :: rest) e w := by
  rcases F1.ex with ⟨rfl, rfl, rfl⟩ | ⟨g, D, h1, h3, h4, h5⟩
  · refine appendO (g := w.heap.size) (D := fun k => B k ∨ D' k) (Own.nil C e' w _ _) (F2.mono fun _ h => .inr h) hE ho hs hx hg hd hb hm (fun h => h.elim (fun h => Nat.lt_irrefl _ (hB _ h).1) (fun h => Nat.lt_irrefl _ (hD' _ h).1)) ?_
    intro g' a' c' w' G hsz hg' hlt F
    have hge : g' = w.heap.size := by rcases hg' with h | h <;> exact h
    subst hge
    have hgr : Gr w w' := G.mono (fun k hk hl => by simp at hk; omega)
    refine K a' c' w' (FrE.ofGr hgr) hsz ?_
    rcases F.row with ⟨h2, h3⟩ | ⟨h2, cur, cs, h3, h4⟩
    · exact ⟨.inl ⟨h2, h3, List.length_eq_zero_iff.1 (by have := F.cap; omega)⟩⟩
    · exact ⟨.inr ⟨_, _, .inr ⟨Nat.le_refl _, h3.lt⟩, fun h => h.elim (fun h => Nat.lt_irrefl _ (hB _ h).1) (fun h => Nat.lt_irrefl _ (hD' _ h).1), fun k h => .inl h, F⟩⟩
  · have hng : ¬ (D g ∨ D' g) := fun h => h.elim h3 (fun h => (hD' g h).2 h1)
    refine appendO (g := g) (D := fun k => D k ∨ D' k) (h5.mono fun _ h => .inl h) (F2.mono fun k h => .inr h) hE ho hs hx hg hd hb hm hng ?_
    intro g' a' c' w' G hsz hg' hlt F
    refine K a' c' w' (FrE.of1 G h1) hsz ?_
    rcases F.row with ⟨h2, h6⟩ | ⟨h2, cur, cs, h6, h7⟩
    · exact ⟨.inl ⟨h2, h6, List.length_eq_zero_iff.1 (by have := F.cap; omega)⟩⟩
    · have hDl : ∀ k, (D k ∨ D' k) → k < w.heap.size := fun k h => h.elim (fun h => (h4 k h).elim (fun h => (hB k h).1) (hEl k)) (fun h => (hD' k h).1)
      refine ⟨.inr ⟨g', _, ?_, fun h8 => ?_, fun k h => ?_, F⟩⟩
      · rcases hg' with rfl | rfl
        · exact .inl h1
        · exact .inr ⟨Nat.le_refl _, h6.lt⟩
      · rcases hg' with rfl | rfl
        · exact hng h8
        · exact Nat.lt_irrefl _ (hDl _ h8)
      · rcases h with h | h
        · exact (h4 k h).elim (fun h => .inl (.inl h)) (fun h => .inr (.inl h))
        · exact .inl (.inr h)
end
/-! ### A frame of several, cut behind the first -/
theorem Fr.cut {i : Nat} {S : List Nat} {a c : World} (h : Fr (i :: S) a c) : ∃ b, Fr [i] a b ∧ Fr S b c := by
  by_cases hi : i < a.heap.size
  · have hc : i < c.heap.size := Nat.lt_of_lt_of_le hi h.size
    refine ⟨{ a with heap := a.heap.set i c.heap[i] hi }, ⟨rfl, rfl, rfl, by simp, fun k hk hn => ?_⟩, ⟨h.os, h.tape, h.output, by simpa using h.size, fun k hk hn => ?_⟩⟩
    · have : i ≠ k := fun e => hn (by simp [e])
      simp [Array.getElem?_set, this]
    · have hk' : k < a.heap.size := by simpa using hk
      by_cases e : i = k
      · subst e; simp [hc]
      · rw [Array.getElem?_set_ne hi e]
        exact h.block k hk' (by simp only [List.mem_cons, not_or]; exact ⟨fun x => e x.symm, hn⟩)
  · exact ⟨a, Fr.refl _ _, h.mono (by intro k hk hlt; simp only [List.mem_cons] at hk; rcases hk with rfl | hk; exact absurd hlt hi; exact hk)⟩
/-! ### A part of the code whose leaves meet again -/
section
variable {P : Program} {n : Nat} {Q : Post} {e : Env} {w : World}
theorem seqJ {a b : Code} (I : Env → World → Prop) (h : VC P n a (thn I Q) e w) (k : ∀ e w, I e w → VC P n b Q e w) : VC P n (.seq a b) Q e w := by
  have key : ∀ R : Post, (∀ x e w, thn I Q x e w → R x e w) → VC P n a R e w := by
    intro R hR
    unfold VC at h ⊢
    refine wp_mono h ?_
    rintro x a w ⟨e, rfl, hq⟩
    exact ⟨e, rfl, hR _ _ _ hq⟩
  refine seq (key _ ?_)
  intro x e w hq
  cases x <;> first | exact k _ _ hq | exact hq
end
section
variable {α : Type} {C : Cod α} {w w' : World} {t lo hi c b k g : Nat} {B : Nat → Prop} {a : Option Addr} {xs : List α} {cs : List Value}
theorem Cells.ma (h : Cells w g cs t) (f : Fr [k] w w') (hn : k ≠ g := by omega) : Cells w' g cs t := h.mv1 f hn
end
/-! ### Shorter steps -/
theorem mk : ((⟨#[]⟩ : ByteArray) = S []) ∧ (∀ a : UInt8, (⟨#[a]⟩ : ByteArray) = S [a]) ∧ (∀ a b : UInt8, (⟨#[a, b]⟩ : ByteArray) = S [a, b]) ∧ (∀ a b c : UInt8, (⟨#[a, b, c]⟩ : ByteArray) = S [a, b, c]) := ⟨rfl, fun _ => rfl, fun _ _ => rfl, fun _ _ _ => rfl⟩
theorem lenA {p : Prop} (h : p := by first | omega | (simp only [List.length_take, List.length_drop, List.length_append, List.length_cons, List.length_nil, List.length_replicate, List.length_set, V.length_data, V.S_size]; omega)) : p := h
section
variable {P : Program} {n : Nat} {Q : Post} {e : Env} {w : World} {ops : Array Oper}
theorem nt {K : Env → World → Prop} (h : K e w) : VL P n ops (thn K Q) [] e w := nil (tN h)
theorem sr {id : Nat} {b : Code} (h : VL P n ops (thn (VC P n b Q) Q) ops.toList e w) : VC P n (.seq (.region id ops false) b) Q e w := seq (region h)
theorem ru {T : Tab} {l rest : List Oper} {e' : Env} (k : Nat) (K : VL P n ops Q rest e' w) (hT : tabB P T = true := by exact T_ok) (h : runK T n ops k l e = some (e', rest) := by exact rfl) : VL P n ops Q l e w := run hT k h K
end
/-! ### A frame of several blocks, at once -/
section
variable {α : Type} {C : Cod α} {w w' : World} {t lo hi c g n : Nat} {S : List Nat} {D : Nat → Prop} {a : Option Addr} {xs : List α} {cs : List Value}
end
/-! ### Frames over sets as contracts' frames; functions compared with nil -/
section
variable {w w' w'' : World} {X Y : Nat → Prop} {i : Nat}
theorem FrE.refl (X : Nat → Prop) (w : World) : FrE X w w := ⟨[], Fr.refl _ _, fun _ h => by cases h⟩
theorem FrE.stepE (G : FrE X w w') (H : FrE Y w' w'') (h : ∀ i, Y i → X i ∨ w.heap.size ≤ i) : FrE X w w'' :=
  (G.trans H).mono (fun i hi hl => hi.elim id (fun hy => (h i hy).elim id (fun h2 => absurd h2 (Nat.not_le_of_lt hl))))
theorem FrE.grow (G : FrE X w w') (H : Gr w' w'') : FrE X w w'' := G.stepE (FrE.ofGr (X := fun _ => False) H) (fun _ h => h.elim)
theorem FrE.new1 (G : FrE X w w') (H : Fr [i] w' w'') (h : X i ∨ w.heap.size ≤ i) : FrE X w w'' := G.stepE (FrE.of1 (X := fun j => j = i) H rfl) (fun j hj => by subst hj; exact h)
theorem FrE.n1 (G : FrE X w w') (H : Fr [i] w' w'') (h : X i ∨ w.heap.size ≤ i := by first | (refine Or.inr ?_; omega) | (refine Or.inl ?_; first | assumption | (dsimp only; grind) | grind)) : FrE X w w'' := G.new1 H h
theorem Fr.mvE (h : Gr w w') (G : FrE X w' w'') (hn : ∀ j, X j → ¬ j < w.heap.size) : Gr w w'' := h.stepE G (fun i hi => .inr (by have := hn i hi; omega))
variable {P : Program} {n : Nat} {e : Env} {o : Oper}
end
section
variable {w w' w'' : World} {X : Nat → Prop}
theorem FrE.bl (G : FrE X w w') (k : Bl w.heap.size w' w'') : FrE X w w'' := by
  obtain ⟨S, f, hS⟩ := G
  exact ⟨S, V.Fr.bl f k, hS⟩
end
/-! ### Windows of rows of one's own: cut from both ends, appended to in their places -/
section
variable {α : Type} {C : Cod α} {w : World} {D : Nat → Prop}
theorem Reps.drop : ∀ {xs : List α} {cs : List Value} (n : Nat), Reps C w D xs cs → Reps C w D (xs.drop n) (cs.drop (n * C.sz))
  | xs, cs, 0, h => by simpa using h
  | [], cs, n + 1, h => by simp [Reps] at h; simp [h, Reps]
  | x :: xs, cs, n + 1, h => by
    obtain ⟨c1, c2, rfl, h1, h2⟩ := h
    have hl : c1.length = C.sz := C.len h1
    have : (n + 1) * C.sz = c1.length + n * C.sz := by rw [hl, Nat.add_mul]; omega
    rw [this, List.drop_succ_cons, List.drop_length_add_append]
    exact Reps.drop n h2
theorem Reps.take : ∀ {xs : List α} {cs : List Value} (n : Nat), Reps C w D xs cs → Reps C w D (xs.take n) (cs.take (n * C.sz))
  | xs, cs, 0, h => by simp [Reps]
  | [], cs, n + 1, h => by simp [Reps] at h; simp [h, Reps]
  | x :: xs, cs, n + 1, h => by
    obtain ⟨c1, c2, rfl, h1, h2⟩ := h
    have hl : c1.length = C.sz := C.len h1
    have : (n + 1) * C.sz = c1.length + n * C.sz := by rw [hl, Nat.add_mul]; omega
    rw [this, List.take_length_add_append, List.take_succ_cons]
    exact ⟨c1, _, rfl, h1, Reps.take n h2⟩
end
/-- The slice is nothing, or a window of block g. -/
structure OwnW {α : Type} (C : Cod α) (t : Nat) (w : World) (D : Nat → Prop) (g : Nat) (a : Option Addr) (c : Nat) (xs : List α) : Prop where
  cap : xs.length ≤ c
  max : c ≤ maxLen
  row : (a = none ∧ c = 0) ∨ ∃ p, a = some ⟨g, p, none⟩ ∧ ∃ cur cs : List Value, Cells w g cur t ∧ p + c * C.sz ≤ cur.length ∧ (cur.drop p).take (xs.length * C.sz) = cs ∧ Reps C w D xs cs
section
variable {P : Program} {α : Type} {C : Cod α} {w w' : World} {D D' : Nat → Prop} {g t c b : Nat} {a : Option Addr} {xs ys : List α} {n : Nat} {ops : Array Oper} {Q : Post} {e : Env} {rest l : List Oper} {o : Oper} {d : Nat} {T : Tab}
theorem Own.asW (h : Own C t w D g a c xs) : OwnW C t w D g a c xs :=
  ⟨h.cap, h.max, h.row.imp id fun ⟨h1, cur, cs, h2, h3, h4, h5⟩ => ⟨0, h1, cur, cs, h2, by omega, by rw [List.drop_zero]; exact h4, h5⟩⟩
theorem OwnW.nil (C : Cod α) (t : Nat) (w : World) (D : Nat → Prop) (g : Nat) : OwnW C t w D g none 0 [] := (Own.nil C t w D g).asW
theorem OwnW.mv {S : List Nat} (h : OwnW C t w D g a c xs) (f : Fr S w w') (hg : ∀ i, i ∈ S → i ≠ g) (hs : ∀ i, i ∈ S → ¬ D i) : OwnW C t w' D g a c xs :=
  ⟨h.cap, h.max, h.row.imp id fun ⟨p, h1, cur, cs, h2, h3, h4, h5⟩ => ⟨p, h1, cur, cs, h2.mv f hg, h3, h4, h5.mv f hs⟩⟩
theorem OwnW.gr (h : OwnW C t w D g a c xs) (f : Gr w w') : OwnW C t w' D g a c xs := h.mv f (by simp) (by simp)
theorem OwnW.mono (h : OwnW C t w D g a c xs) (h1 : ∀ k, D k → D' k) : OwnW C t w D' g a c xs :=
  ⟨h.cap, h.max, h.row.imp id fun ⟨p, h3, cur, cs, h4, h5, h6, h7⟩ => ⟨p, h3, cur, cs, h4, h5, h6, h7.mono h1⟩⟩
theorem OwnW.bl (h : OwnW C t w D g a c xs) (f : Bl b w w') (hn : g < b ∧ ∀ k, D k → k < b) : OwnW C t w' D g a c xs :=
  h.mv f.asFr (fun i hi e => by subst e; simp at hi; omega) (fun i hi hD => by have := hn.2 i hD; simp at hi; omega)
theorem Cells.win {cur : List Value} {p L : Nat} (h : Cells w g cur t) : At w g p ((cur.drop p).take L) := fun j u hu => by
  rw [List.getElem?_take] at hu
  split at hu
  · rw [List.getElem?_drop] at hu
    have := h.at_ (p + j) u hu
    simpa using this
  · cases hu
theorem OwnW.sl (h : OwnW C t w D g a c xs) (h1 : ∀ k, D k → D' k) (h3 : D' g) : Sl C w D' a c xs := by
  rcases h.row with ⟨rfl, rfl⟩ | ⟨p, rfl, cur, cs, h5, h6, h7, h8⟩
  · have : xs = [] := List.length_eq_zero_iff.1 (by have := h.cap; omega)
    subst this
    exact Sl.nil C w D' none 0 h.max
  · subst h7
    exact (h8.mono h1).sl h5.win h3 h.cap h.max
theorem OwnW.drop (h : OwnW C t w D g a c xs) {l : Nat} (hl : l ≤ xs.length) : OwnW C t w D g (addrCut a l c C.sz) (c - l) (xs.drop l) := by
  have hc := h.cap
  refine ⟨by rw [List.length_drop]; omega, by have := h.max; omega, ?_⟩
  rcases h.row with ⟨rfl, rfl⟩ | ⟨p, rfl, cur, cs, h5, h6, h7, h8⟩
  · have : l = 0 := by omega
    subst this
    exact .inl ⟨rfl, rfl⟩
  · refine .inr ?_
    unfold addrCut
    split
    · rename_i he
      subst he
      have : xs.drop c = [] := List.drop_eq_nil_iff.2 hc
      rw [this]
      exact ⟨p, rfl, cur, [], h5, by simp; omega, by simp, rfl⟩
    · refine ⟨p + l * C.sz, by simp [Addr.add_lit], cur, _, h5, ?_, rfl, ?_⟩
      · have : l * C.sz + (c - l) * C.sz = c * C.sz := by rw [← Nat.add_mul]; congr 1; omega
        omega
      · subst h7
        have := h8.drop l
        rw [List.drop_take, List.drop_drop, ← Nat.sub_mul] at this
        rwa [List.length_drop]
theorem OwnW.take (h : OwnW C t w D g a c xs) {m : Nat} (hm : m ≤ xs.length) : OwnW C t w D g (addrCut a 0 m C.sz) m (xs.take m) := by
  have hc := h.cap
  have hlen : (xs.take m).length = m := by rw [List.length_take]; omega
  refine ⟨by omega, by have := h.max; omega, ?_⟩
  rcases h.row with ⟨rfl, rfl⟩ | ⟨p, rfl, cur, cs, h5, h6, h7, h8⟩
  · exact .inl ⟨by unfold addrCut; split <;> rfl, by omega⟩
  · refine .inr ⟨p, by unfold addrCut; split <;> simp [Addr.add_lit], cur, _, h5, ?_, rfl, ?_⟩
    · have : m * C.sz ≤ c * C.sz := Nat.mul_le_mul_right _ (by omega)
      omega
    · subst h7
      have := h8.take m
      rw [List.take_take, Nat.min_eq_left (Nat.mul_le_mul_right _ hm)] at this
      rwa [hlen]
end
/-- The slice is nothing, or a window of a row of one's own, a block of E's; what its elements lead to is E's too, or B's. -/
structure RowW {α : Type} (C : Cod α) (t : Nat) (w : World) (B E : Nat → Prop) (a : Option Addr) (c : Nat) (xs : List α) : Prop where
  ex : (a = none ∧ c = 0 ∧ xs = []) ∨ ∃ (g : Nat) (D : Nat → Prop), E g ∧ ¬ D g ∧ (∀ k, D k → B k ∨ E k) ∧ OwnW C t w D g a c xs
section
variable {P : Program} {α : Type} {C : Cod α} {w w' : World} {X B B' D E E' : Nat → Prop} {t c b : Nat} {a : Option Addr} {xs ys : List α} {S : List Nat}
theorem RowE.asW (h : RowE C t w B E a c xs) : RowW C t w B E a c xs := ⟨h.ex.imp id fun ⟨g, D, h1, h3, h4, h5⟩ => ⟨g, D, h1, h3, h4, h5.asW⟩⟩
theorem RowW.nil : RowW C t w B E none 0 [] := ⟨.inl ⟨rfl, rfl, rfl⟩⟩
theorem RowW.gr (h : RowW C t w B E a c xs) (f : Gr w w') : RowW C t w' B E a c xs := ⟨h.ex.imp id fun ⟨g, D, h1, h3, h4, h5⟩ => ⟨g, D, h1, h3, h4, h5.gr f⟩⟩
theorem RowW.mvE (h : RowW C t w B E a c xs) (G : FrE X w w') (hn : ∀ j, X j → ¬ (B j ∨ E j)) : RowW C t w' B E a c xs := by
  obtain ⟨S, f, hS⟩ := G
  exact ⟨h.ex.imp id fun ⟨g, D, h1, h3, h4, h5⟩ => ⟨g, D, h1, h3, h4, h5.mv f (fun i hi e => hn i (hS i hi) (.inr (e ▸ h1))) (fun i hi hD => hn i (hS i hi) (h4 i hD))⟩⟩
theorem RowW.mv1 {i : Nat} (h : RowW C t w B E a c xs) (f : Fr [i] w w') (hn : ¬ (B i ∨ E i)) : RowW C t w' B E a c xs :=
  h.mvE (X := fun j => j = i) (FrE.of1 f rfl) (fun j hj => hj ▸ hn)
theorem RowW.bl (h : RowW C t w B E a c xs) (f : Bl b w w') (hn : ∀ k, B k ∨ E k → k < b) : RowW C t w' B E a c xs :=
  ⟨h.ex.imp id fun ⟨g, D, h1, h3, h4, h5⟩ => ⟨g, D, h1, h3, h4, h5.bl f ⟨hn g (.inr h1), fun k hk => hn k (h4 k hk)⟩⟩⟩
theorem RowW.mono (h : RowW C t w B E a c xs) (hE : ∀ k, E k → E' k) : RowW C t w B E' a c xs :=
  ⟨h.ex.imp id fun ⟨g, D, h1, h3, h4, h5⟩ => ⟨g, D, hE g h1, h3, fun k hk => (h4 k hk).imp id (hE k), h5⟩⟩
theorem RowW.mono2 (h : RowW C t w B E a c xs) (hB : ∀ k, B k → B' k ∨ E' k) (hE : ∀ k, E k → E' k) : RowW C t w B' E' a c xs :=
  ⟨h.ex.imp id fun ⟨g, D, h1, h3, h4, h5⟩ => ⟨g, D, hE g h1, h3, fun k hk => (h4 k hk).elim (hB k) (fun h => .inr (hE k h)), h5⟩⟩
theorem RowW.slB (h : RowW C t w B E a c xs) : Sl C w (fun k => B k ∨ E k) a c xs := by
  rcases h.ex with ⟨rfl, rfl, rfl⟩ | ⟨g, D, h1, h3, h4, h5⟩
  · exact Sl.nil _ _ _ _ _ (Nat.zero_le _)
  · exact h5.sl h4 (.inr h1)
theorem RowW.sl (h : RowW C t w None' E a c xs) : Sl C w E a c xs := h.slB.mono fun _ h => h.elim False.elim id
theorem RowW.drop (h : RowW C t w B E a c xs) {l : Nat} (hl : l ≤ xs.length) : RowW C t w B E (addrCut a l c C.sz) (c - l) (xs.drop l) := by
  rcases h.ex with ⟨rfl, rfl, rfl⟩ | ⟨g, D, h1, h3, h4, h5⟩
  · have : l = 0 := by simpa using hl
    subst this
    exact ⟨.inl ⟨rfl, rfl, rfl⟩⟩
  · exact ⟨.inr ⟨g, D, h1, h3, h4, h5.drop hl⟩⟩
theorem RowW.take (h : RowW C t w B E a c xs) {m : Nat} (hm : m ≤ xs.length) : RowW C t w B E (addrCut a 0 m C.sz) m (xs.take m) := by
  rcases h.ex with ⟨rfl, rfl, rfl⟩ | ⟨g, D, h1, h3, h4, h5⟩
  · have : m = 0 := by simpa using hm
    subst this
    exact ⟨.inl ⟨rfl, rfl, rfl⟩⟩
  · exact ⟨.inr ⟨g, D, h1, h3, h4, h5.take hm⟩⟩
variable {n : Nat} {ops : Array Oper} {Q : Post} {e : Env} {rest l : List Oper} {o : Oper} {d : Nat} {T : Tab}
end
section
variable {P : Program} {α : Type} {C : Cod α} {n c : Nat} {ops : Array Oper} {Q : Post} {e : Env} {rest l : List Oper} {o : Oper} {d : Nat} {T : Tab} {a : Option Addr} {xs : List α}
end
/-! ### Rows of one's own whose elements lead on: an element stored; a piece taken out, the rest cleared -/
section
variable {P : Program} {α : Type} {C : Cod α} {w w' : World} {D : Nat → Prop} {g t c : Nat} {a : Option Addr} {xs ys : List α} {n : Nat} {ops : Array Oper} {Q : Post} {e : Env} {rest l : List Oper} {o : Oper} {d : Nat}
end
section
variable {P : Program} {n len c sz : Nat} {e : Env} {o : Oper} {T : Tab} {a : Option Addr}
end
section
variable {P : Program} {α : Type} {C : Cod α} {w w' : World} {D : Nat → Prop} {g t c : Nat} {a : Option Addr} {xs ys : List α} {n : Nat} {ops : Array Oper} {Q : Post} {e : Env} {rest l : List Oper} {o : Oper} {d : Nat} {T : Tab}
end
section
variable {w w' : World} {k t : Nat} {cs vs : List Value}
theorem Cells.atq (h : Cells w k cs t) (q m : Nat) (hc : (cs.drop q).take m = vs) : At w k q vs := by
  have := h.at_.part q m
  rw [Nat.zero_add, hc] at this; exact this
theorem At.gr {b o : Nat} (h : At w b o cs) (f : Gr w w') : At w' b o cs := h.mv f (by simp)
end
section
variable {α : Type} {C : Cod α} {w : World} {lo hi t t' c k : Nat} {a : Option Addr} {xs : List α} {cs : List Value}
/-- a row is apart from a block of another type -/
theorem Row.apart (hf : Flat C) (h : Row C t w None' lo hi a c xs) (F : Cells w k cs t') (ht : t ≠ t') : RowE C t w None' (fun j => In lo hi j ∧ j ≠ k) a c xs := by
  rcases h.ex with h0 | ⟨g, D, h1, h2, h3, h4, h5⟩
  · exact ⟨.inl h0⟩
  · rcases h5.row with ⟨e1, e2⟩ | ⟨e1, cur, cs', e2, e3⟩
    · exact ⟨.inl ⟨e1, e2, List.length_eq_zero_iff.1 (by have := h5.cap; omega)⟩⟩
    · refine ⟨.inr ⟨g, None', ⟨⟨h1, h2⟩, fun e => ?_⟩, fun h => h, fun _ h => h.elim, h5.flat hf⟩⟩
      subst e
      rw [Cells] at F e2
      rw [F] at e2
      injection e2 with e2
      injection e2 with _ e2
      exact ht e2.symm
end
section
variable {P : Program} {n : Nat} {e : Env} {o : Oper} {T : Tab}
theorem buildA0_run (hT : tabB P T = true) {t l el s : Nat} {ag : Bool} {z : Value} (hz : zeroT P t = some z) (ho : o.op = .build t #[]) (ht : look T t = some (.arr l el s ag)) (w : World) :
    (execOp (act n e).eval o).run P w = .ok (.value (.agg (cellsL z).toArray)) w := by
  obtain ⟨hu, hs, -⟩ := look_arr hT ht
  simp only [execOp, ho]
  refine run_pure_value ?_
  unfold Instr.build
  have hc : z.cells = (cellsL z).toArray := cellsL_eq z
  simp [Sem.run_bind, run_zero hz, run_underlying hu, run_sizeOf' hs, hc, Instr.fill]
end
section
variable {P : Program} {n : Nat} {e : Env} {o : Oper} {T : Tab}
theorem idxA_run (hT : tabB P T = true) {t l el s : Nat} {ag : Bool} {x ix : Operand} {k : IntKind} {cs : Array Value} {i : Int} {v : Value} (ht : look T t = some (.arr l el s ag)) (ho : o.op = .index t x ix) (hx : evn n e x = some (.agg cs)) (hi : evn n e ix = some (.int k i)) (h0 : 0 ≤ i) (h1 : i < l)
    (h : (bif ag then some (.agg ((cs.toList.drop (i.toNat * s)).take s).toArray) else cs.toList[i.toNat * s]?) = some v) (w : World) : (execOp (act n e).eval o).run P w = .ok (.value v) w := by
  obtain ⟨hu, hs, ha, hi2, -⟩ := look_arr hT ht
  simp only [execOp, ho, evn_eval hx, evn_eval hi]
  refine run_pure_value ?_
  simp [Instr.index, asIntOf, run_underlying hu, h0, h1, run_sizeOf' hs, run_part hs ha hi2 h]
end
section
variable {P : Program} {n : Nat} {e : Env} {o : Oper} {ops : Array Oper} {C : World → Prop} {S : Nat → Bool} {Q : Env → World → Prop} {rest : List Oper} {q d : Nat} {H : World → Prop}
theorem maddN {t t' : Nat} {x y : Operand} {a b : Int} (ho : o.op = .binOp .add t x y t') (hx : evn n e x = some (.int .i64 a)) (hy : evn n e y = some (.int .i64 b)) (hg : o.guard = none) (hd : o.dst = some d) (hS : S q = false) (h0 : -9223372036854775808 ≤ a + b) (h1 : a + b ≤ 9223372036854775807)
    (K : VM P n ops C S Q rest (q + 1) H (e.set d (.int .i64 (a + b)))) : VM P n ops C S Q (o :: rest) q H e := by
  refine mstep hg hd hS (fun _ _ => ?_) K
  simp only [execOp, ho, evn_eval hx, evn_eval hy]
  refine run_pure_value (bin1_run ?_)
  simp [bin1, bin2, wrap_in h0 h1]
end
end Go.Proofs.Ytphohfpbdkgnaaa.V
