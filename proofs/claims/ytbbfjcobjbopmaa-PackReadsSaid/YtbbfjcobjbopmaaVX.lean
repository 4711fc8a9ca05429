/- Proved here: more rules of the calculus: arrays in memory, and what else the later layers need. Conditions: each rule bears its own. -/
import Derived.Test.YtbbfjcobjbopmaaVV
import Derived.ProofKit
import Derived.OpenShut
import Derived.ShutString
import Derived.ChangeOld
namespace Go.Proofs.Ytbbfjcobjbopmaa.V
open Go
/-! ### Arrays in memory -/
section
variable {P : Program} {n : Nat} {ops : Array Oper} {Q : Post} {e : Env} {w : World} {rest l : List Oper} {o : Oper} {d : Nat} {T : Tab} {Q' : Env → Prop}
theorem elemP_run (hT : tabB P T = true) {t N e' s b off : Nat} {ag : Bool} {x ix : Operand} {k : IntKind} {i : Int} (ho : o.op = .indexAddr t x ix) (ht : look T t = some (.arr N e' s ag))
    (hx : evn n e x = some (.pointer (some ⟨b, off, none⟩))) (hi' : evn n e ix = some (.int k i)) (h0 : 0 ≤ i) (h1 : i < N) (w : World) :
    (execOp (act n e).eval o).run P w = .ok (.value (.pointer (some ⟨b, off + i.toNat * s, none⟩))) w := by
  obtain ⟨hu, hs, _⟩ := look_arr hT ht
  simp only [execOp, ho, evn_eval hx, evn_eval hi']
  refine run_pure_value ?_
  simp [Instr.indexAt, asIntOf, run_underlying hu, h0, h1, run_sizeOf' hs, Addr.add_lit, Instr.sureAddr]
theorem elemP (hT : tabB P T = true) {t N e' s b off : Nat} {ag : Bool} {x ix : Operand} {k : IntKind} {i : Int} (ho : o.op = .indexAddr t x ix) (ht : look T t = some (.arr N e' s ag))
    (hx : evn n e x = some (.pointer (some ⟨b, off, none⟩))) (hi' : evn n e ix = some (.int k i)) (hg : o.guard = none) (hd : o.dst = some d) (h0 : 0 ≤ i) (h1 : i < N)
    (K : VL P n ops Q rest (e.set d (.pointer (some ⟨b, off + i.toNat * s, none⟩))) w) : VL P n ops Q (o :: rest) e w :=
  step hg hd (elemP_run hT ho ht hx hi' h0 h1 w) K
theorem qelemP (hT : tabB P T = true) {t N e' s b off : Nat} {ag : Bool} {x ix : Operand} {k : IntKind} {i : Int} (ho : o.op = .indexAddr t x ix) (ht : look T t = some (.arr N e' s ag))
    (hx : evn n e x = some (.pointer (some ⟨b, off, none⟩))) (hi' : evn n e ix = some (.int k i)) (hg : o.guard = none) (hd : o.dst = some d) (h0 : 0 ≤ i) (h1 : i < N)
    (K : VQ P n ops w Q' rest (e.set d (.pointer (some ⟨b, off + i.toNat * s, none⟩)))) : VQ P n ops w Q' (o :: rest) e :=
  qstep hg hd (fun w' _ => elemP_run hT ho ht hx hi' h0 h1 w') K
end
/-! ### A row's argument, opened -/
/-- What the row reads at type t is a value of C that is fine. -/
def Opens {H : Type} (enc : TypeId × Value → H) (P : Program) (W : World) {α : Type} (C : Cod α) (ok : α → Prop) (t : TypeId) : Prop :=
  ∀ fuel cs x, DataW.trod enc P W 0 (fun _ => true) true fuel t cs = some x → ∃ a, C.R W (fun k => k < W.heap.size) a cs ∧ ok a
section
variable {H : Type} {enc : TypeId × Value → H} {P : Program} {W : World} {t : TypeId}
theorem opens_byte (ht : P.underlying t = some (.int .u8)) : Opens enc P W Cod.byte (fun _ => True) t := by
  intro fuel cs x h
  obtain ⟨n, rfl, _, hw⟩ := DataW.trod_int ht h
  have hb : 0 ≤ n ∧ n ≤ 255 := by simpa [Lit.wf, IntKind.min, IntKind.max, IntKind.bits, IntKind.signed] using hw
  refine ⟨UInt8.ofNat n.toNat, ?_, trivial⟩
  have e : (((UInt8.ofNat n.toNat).toNat : Nat) : Int) = n := by simp; omega
  show [Value.int .u8 n] = [Value.int .u8 (((UInt8.ofNat n.toNat).toNat : Nat) : Int)]
  rw [e]
theorem opens_int {k : IntKind} (ht : P.underlying t = some (.int k)) : Opens enc P W (Cod.int k) (fun n => (Lit.int k n).wf = true) t := by
  intro fuel cs x h
  obtain ⟨n, rfl, _, hw⟩ := DataW.trod_int ht h
  exact ⟨n, rfl, hw⟩
theorem wf_i64 {n : Int} (h : (Lit.int .i64 n).wf = true) : -9223372036854775808 ≤ n ∧ n ≤ 9223372036854775807 := by
  simpa [Lit.wf, IntKind.min, IntKind.max, IntKind.bits, IntKind.signed] using h
theorem wf_u8 {n : Int} (h : (Lit.int .u8 n).wf = true) : 0 ≤ n ∧ n ≤ 255 := by
  simpa [Lit.wf, IntKind.min, IntKind.max, IntKind.bits, IntKind.signed] using h
theorem opens_i64 (ht : P.underlying t = some (.int .i64)) : Opens enc P W (Cod.int .i64) (fun n => -9223372036854775808 ≤ n ∧ n ≤ 9223372036854775807) t := fun f cs x h =>
  let ⟨a, h1, h2⟩ := opens_int ht f cs x h; ⟨a, h1, wf_i64 h2⟩
theorem opens_bool (ht : P.underlying t = some .bool) : Opens enc P W Cod.bool (fun _ => True) t := by
  intro fuel cs x h
  obtain ⟨b, rfl, _⟩ := DataW.trod_bool ht h
  exact ⟨b, rfl, trivial⟩
theorem opens_str (ht : P.underlying t = some .string) : Opens enc P W Cod.str (fun s => s.size ≤ maxLen) t := by
  intro fuel cs x h
  obtain ⟨s, rfl, _, hs⟩ := DataW.trod_string ht h
  exact ⟨s, rfl, hs⟩
theorem Opens.iso {α β : Type} {A : Cod α} {ok : α → Prop} (h : Opens enc P W A ok t) (f : β → α) (g : α → β) (hfg : ∀ a, f (g a) = a) : Opens enc P W (A.iso f) (fun b => ok (f b)) t := fun fu cs x hx =>
  let ⟨a, h1, h2⟩ := h fu cs x hx; ⟨g a, by show A.R _ _ (f (g a)) _; rw [hfg]; exact h1, by show ok (f (g a)); rw [hfg]; exact h2⟩
theorem choose_list {α : Type} {n : Nat} {p : Nat → α → Prop} (h : ∀ i, i < n → ∃ a, p i a) : ∃ xs : List α, xs.length = n ∧ ∀ i (hi : i < xs.length), p i xs[i] := by
  refine ⟨List.ofFn fun i : Fin n => Classical.choose (h i.1 i.2), by simp, fun i hi => ?_⟩
  simp only [List.getElem_ofFn]
  exact Classical.choose_spec (h i (by simpa using hi))
theorem opens_sl {α : Type} {C : Cod α} {ok : α → Prop} {e : TypeId} (ht : P.underlying t = some (.slice e)) (hc : P.cellsOf e = C.sz) (hs : 0 < C.sz) (h : Opens enc P W C ok e) :
    Opens enc P W C.sl (fun xs => xs.length ≤ maxLen ∧ ∀ x ∈ xs, ok x) t := by
  intro fuel cs x hx
  rcases DataW.trod_slice ht hx with ⟨rfl, _⟩ | ⟨a, len, cap, elems, rest, n, _, rfl, _, _, hl, hm, hlen, hel, _, _⟩
  · exact ⟨[], ⟨none, 0, rfl, Sl.nil _ _ _ _ _ (Nat.zero_le _)⟩, Nat.zero_le _, by simp⟩
  · have hx : ∀ i, i < len → ∃ y : α, ok y ∧ ∃ cs, C.R W (fun k => k < W.heap.size) y cs ∧ (∀ j u, cs[j]? = some u → W.cell? ((a.add (i * C.sz)).add j) = some u) ∧ (a.add (i * C.sz)).block < W.heap.size ∧ ((a.add (i * C.sz)).add 0).spot = none := by
      intro i hi
      have h1 := hel i hi
      rw [hc] at h1
      obtain ⟨y, hy⟩ : ∃ y, elems[i]? = some y := ⟨elems[i], by rw [List.getElem?_eq_getElem (by omega)]⟩
      rw [hy] at h1
      cases hcs : W.cells? 0 (a.add (i * C.sz)) C.sz with
      | none => rw [hcs] at h1; simp at h1
      | some cs =>
        rw [hcs] at h1
        simp only [Option.bind_some] at h1
        obtain ⟨b, h2, h3⟩ := h n cs _ h1
        obtain ⟨_, h4, h5⟩ := World.cells?_some hcs
        refine ⟨b, h3, cs, h2, fun j u hu => ?_, World.cells?_block hcs hs, ?_⟩
        · rw [h5 j (by rw [← h4]; exact (List.getElem?_eq_some_iff.1 hu).1), hu]
        · have h6 := h5 0 hs
          rw [List.getElem?_eq_getElem (by omega)] at h6
          exact World.cell?_spot h6
    obtain ⟨xs, hxl, hxs⟩ := choose_list hx
    refine ⟨xs, ⟨some a, cap, by rw [hxl], ⟨by omega, hm, fun hn => ?_⟩⟩, by omega, fun y hy => ?_⟩
    · obtain ⟨_, cs0, _, _, hb, hsp⟩ := hxs 0 hn
      obtain ⟨b, o, sp⟩ := a
      have hsp2 : sp = none := by simpa [Addr.add] using hsp
      subst hsp2
      refine ⟨b, o, rfl, by simpa [Addr.add] using hb, fun i hi => ?_⟩
      obtain ⟨_, cs, h1, h2, _, _⟩ := hxs i hi
      refine ⟨cs, h1, fun j u hu => ?_⟩
      have := h2 j u hu
      simpa [Addr.add_lit] using this
    · obtain ⟨i, hi, rfl⟩ := List.getElem_of_mem hy
      exact (hxs i hi).1
/-- parts of a value, one behind the other -/
def OpensPs {H : Type} (enc : TypeId × Value → H) (P : Program) (W : World) {α : Type} (C : Cod α) (ok : α → Prop) (l : List (TypeId × Nat)) (off : Nat) : Prop :=
  ∀ (fuel : Nat) (cs : List Value), cs.length = off + C.sz → (∀ p ∈ l, ∃ y, DataW.trod enc P W 0 (fun _ => true) true fuel p.1 ((cs.drop p.2).take (P.cellsOf p.1)) = some y) → ∃ a, C.R W (fun k => k < W.heap.size) a (cs.drop off) ∧ ok a
theorem ops_one {α : Type} {C : Cod α} {ok : α → Prop} {f : TypeId} {off : Nat} (hc : P.cellsOf f = C.sz) (h : Opens enc P W C ok f) : OpensPs enc P W C ok [(f, off)] off := by
  intro fuel cs hl hp
  obtain ⟨y, hy⟩ := hp (f, off) (by simp)
  simp only at hy
  rw [List.take_of_length_le (by simp; omega)] at hy
  exact h _ _ _ hy
theorem ops_cons {α β : Type} {A : Cod α} {B : Cod β} {oka : α → Prop} {okb : β → Prop} {f : TypeId} {l : List (TypeId × Nat)} {off : Nat} (hc : P.cellsOf f = A.sz) (h : Opens enc P W A oka f) (hr : OpensPs enc P W B okb l (off + A.sz)) :
    OpensPs enc P W (Cod.pair A B) (fun x => oka x.1 ∧ okb x.2) ((f, off) :: l) off := by
  intro fuel cs hl hp
  obtain ⟨y, hy⟩ := hp (f, off) (by simp)
  simp only at hy
  obtain ⟨a, h1, h2⟩ := h _ _ _ hy
  obtain ⟨b, h3, h4⟩ := hr fuel cs (by simp only [Cod.pair] at hl; omega) (fun p hm => hp p (by simp [hm]))
  refine ⟨(a, b), ⟨_, _, ?_, h1, h3⟩, h2, h4⟩
  rw [hc, ← List.drop_drop]
  exact (List.take_append_drop _ _).symm
theorem opens_struct {α : Type} {C : Cod α} {ok : α → Prop} {fs : Array Field} (ht : P.underlying t = some (.struct fs)) (hc : P.cellsOf t = C.sz) (h : OpensPs enc P W C ok (fs.toList.map fun f => (f.type, f.offset)) 0) : Opens enc P W C ok t := by
  intro fuel cs x hx
  obtain ⟨xs, n, _, _, hl, hlen, hf⟩ := DataW.trod_struct ht hx
  have := h n cs (by omega) (fun p hp => by
    obtain ⟨f, hm, rfl⟩ := List.mem_map.1 hp
    obtain ⟨i, hi, rfl⟩ := List.getElem_of_mem hm
    have hi' : i < fs.size := by simpa using hi
    refine ⟨xs[i], ?_⟩
    have := hf i fs[i] (by simp [hi'])
    rw [List.getElem?_eq_getElem (by omega)] at this
    simpa using this)
  simpa using this
theorem opens_array {α : Type} {C : Cod α} {ok : α → Prop} {n s : Nat} {e : TypeId} (ht : P.underlying t = some (.array n e)) (hc : P.cellsOf t = C.sz) (hs : P.cellsOf e = s) (h : OpensPs enc P W C ok ((List.range n).map fun i => (e, i * s)) 0) : Opens enc P W C ok t := by
  subst hs
  intro fuel cs x hx
  obtain ⟨xs, m, _, _, hl, hlen, hf⟩ := DataW.trod_array ht hx
  have := h m cs (by omega) (fun p hp => by
    obtain ⟨i, hm, rfl⟩ := List.mem_map.1 hp
    have hi : i < n := by simpa using hm
    refine ⟨xs[i], ?_⟩
    have := hf i hi
    rw [List.getElem?_eq_getElem (by omega)] at this
    exact this)
  simpa using this
/-- the argument itself: cells -/
theorem Opens.cells {α : Type} {C : Cod α} {ok : α → Prop} {v : Value} {d : DataW H} {ps : List MemPlace} (h : Opens enc P W C ok t) (hd : DataW.Trod enc P W 0 (fun _ => true) true t v d ps) :
    ∃ a, C.R W (fun k => k < W.heap.size) a v.cells.toList ∧ ok a := let ⟨fuel, hf⟩ := hd; h fuel _ _ hf
theorem open_slc {α : Type} {C : Cod α} {ok : α → Prop} {e : TypeId} {r : Reach} {b : Nat} {v : Value} {d : DataW H} {ps : List MemPlace} (ht : P.underlying t = some (.slice e)) (hv : Value.okWide P W r b t v) (hc : P.cellsOf e = C.sz) (hs : 0 < C.sz) (h : Opens enc P W C ok e) (hd : DataW.Trod enc P W 0 (fun _ => true) true t v d ps) :
    ∃ a c xs, v = .slice a xs.length c ∧ Sl C W (fun k => k < W.heap.size) a c xs ∧ ∀ x ∈ xs, ok x := by
  obtain ⟨a0, l0, c0, rfl⟩ := Go.WideShapes.okWide_slice ht hv
  obtain ⟨xs, ⟨a, c, h1, h2⟩, h3⟩ := (opens_sl ht hc hs h).cells hd
  have : Value.slice a0 l0 c0 = Value.slice a xs.length c := by simpa [Value.cells] using h1
  exact ⟨a, c, xs, this, h2, h3.2⟩
theorem open_agg {α : Type} {C : Cod α} {ok : α → Prop} {r : Reach} {b : Nat} {v : Value} {d : DataW H} {ps : List MemPlace} (ht : (∃ fs, P.underlying t = some (.struct fs)) ∨ ∃ n e, P.underlying t = some (.array n e)) (hv : Value.okWide P W r b t v) (h : Opens enc P W C ok t) (hd : DataW.Trod enc P W 0 (fun _ => true) true t v d ps) :
    ∃ a cs, v = .agg cs.toArray ∧ C.R W (fun k => k < W.heap.size) a cs ∧ ok a := by
  obtain ⟨cs, rfl⟩ : ∃ cs, v = .agg cs := by
    rcases ht with ⟨fs, ht⟩ | ⟨n, e, ht⟩ <;> (simp only [Value.okWide, ht] at hv; obtain ⟨cs, h1, _⟩ := hv; exact ⟨cs, h1⟩)
  obtain ⟨a, h1, h2⟩ := h.cells hd
  exact ⟨a, cs.toList, rfl, h1, h2⟩
end
/-! ### Structures of flat cells; a slice of one's own that grows -/
namespace Cod
def cells {α : Type} (n : Nat) (enc : α → List Value) (hl : ∀ x, (enc x).length = n) (h1 : ∀ x, ∀ u ∈ enc x, u.oneCell' = true) : Cod α where
  sz := n
  R := fun _ _ x cs => cs = enc x
  len := by rintro w D x cs rfl; exact hl x
  one := by rintro w D x cs rfl u hu; exact h1 x u hu
  mv := fun h _ _ => h
  mono := fun h _ => h
end Cod
theorem flat_cells {α : Type} {n : Nat} {enc : α → List Value} {hl : ∀ x, (enc x).length = n} {h1 : ∀ x, ∀ u ∈ enc x, u.oneCell' = true} : Flat (Cod.cells n enc hl h1) := fun h => h
section
variable {H : Type} {enc : TypeId × Value → H} {P : Program} {W : World} {t : TypeId}
theorem Opens.conv {α β : Type} {A : Cod α} {B : Cod β} {ok : α → Prop} {ok' : β → Prop} (h : Opens enc P W A ok t) (f : α → β) (hR : ∀ w D a cs, A.R w D a cs → B.R w D (f a) cs) (hok : ∀ a, ok a → ok' (f a)) : Opens enc P W B ok' t := fun fu cs x hx =>
  let ⟨a, h1, h2⟩ := h fu cs x hx; ⟨f a, hR _ _ _ _ h1, hok _ h2⟩
end
/-- A slice that is nothing, or in a row of its own from lo on that is not r. -/
structure Grw {α : Type} (C : Cod α) (t : Nat) (w : World) (r lo hi : Nat) (a : Option Addr) (c : Nat) (xs : List α) : Prop where
  ex : (a = none ∧ c = 0 ∧ xs = []) ∨ ∃ g, lo ≤ g ∧ g < hi ∧ g ≠ r ∧ Own C t w None' g a c xs
section
variable {α : Type} {C : Cod α} {t c r lo hi : Nat} {w w' : World} {a : Option Addr} {xs : List α}
theorem Grw.gr (h : Grw C t w r lo hi a c xs) (f : Gr w w') : Grw C t w' r lo hi a c xs := ⟨h.ex.imp id fun ⟨g, h1, h2, h3, h4⟩ => ⟨g, h1, h2, h3, h4.gr f⟩⟩
theorem Grw.mv1 {k : Nat} (h : Grw C t w r lo hi a c xs) (f : Fr [k] w w') (hk : k < lo) : Grw C t w' r lo hi a c xs := ⟨h.ex.imp id fun ⟨g, h1, h2, h3, h4⟩ => ⟨g, h1, h2, h3, h4.mv1 f ⟨by omega, fun h => h⟩⟩⟩
theorem Grw.nil : Grw C t w r lo hi none 0 [] := ⟨.inl ⟨rfl, rfl, rfl⟩⟩
theorem Grw.own (h : Grw C t w r lo hi a c xs) : ∃ g, Own C t w None' g a c xs ∧ (g = w.heap.size ∨ (lo ≤ g ∧ g < hi ∧ g ≠ r)) := by
  rcases h.ex with ⟨rfl, rfl, rfl⟩ | ⟨g, h1, h2, h3, h4⟩
  · exact ⟨_, Own.nil _ _ _ _ _, .inl rfl⟩
  · exact ⟨g, h4, .inr ⟨h1, h2, h3⟩⟩
theorem Grw.of {r' g : Nat} (h : Own C t w None' g a c xs) (h1 : lo ≤ g) (h2 : g < hi) (h3 : g ≠ r') : Grw C t w r' lo hi a c xs := ⟨.inr ⟨g, h1, h2, h3, h⟩⟩
end
section
variable {α : Type} {C : Cod α} {t c r lo hi : Nat} {w w' : World} {a : Option Addr} {xs : List α}
theorem Grw.sl (h : Grw C t w r lo hi a c xs) : Sl C w (fun k => k < hi) a c xs := by
  rcases h.ex with ⟨rfl, rfl, rfl⟩ | ⟨g, h1, h2, h3, h4⟩
  · exact Sl.nil _ _ _ _ _ (Nat.zero_le _)
  · exact h4.sl (fun _ h => h.elim) h2
theorem from_one {P : Program} {tx e' k t : Nat} {w : World} {x : α} {cs : List Value} {D : Nat → Prop} (F : Cells w k cs t) (hR : C.R w D x cs) (hD : D k) (ht : P.underlying tx = some (.slice e')) : From P C tx w D (.slice (some ⟨k, 0, none⟩) 1 1) [x] :=
  (F.sl (xs := [x]) (reps_one hR) hD (by simp [maxLen])).from ht
end
end Go.Proofs.Ytbbfjcobjbopmaa.V
