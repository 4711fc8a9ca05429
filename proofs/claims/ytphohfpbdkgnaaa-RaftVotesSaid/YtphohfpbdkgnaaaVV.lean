/- Proved here: an own calculus over the model: rules that step through a function (each rule proved; no program in sight). Conditions: each rule bears its own. -/
import Derived.WalkKit
import Derived.KernelRfl
import Derived.RowKit3
import Derived.Below
import Derived.Laws.BytesArg
import Derived.Laws.MakeOwn
import Derived.Laws.OwnMore
import Derived.Laws.IdiomCopy
import Derived.Deep.AppendSrc
import Derived.Deep.Quiet
import Derived.Lib.ConvBytes
namespace Go.Proofs.Ytphohfpbdkgnaaa.V
set_option linter.unusedVariables false
set_option linter.unusedSimpArgs false
open Go
open Go.RowKit (Below)

/-! ### The temporaries as a function -/
abbrev Env := Nat → Value
def Env.set (e : Env) (d : Nat) (v : Value) : Env := fun i => bif Nat.beq i d then v else e i
def put (e : Env) : Option Nat → Value → Env
  | some d, v => e.set d v
  | none, _ => e
def act (n : Nat) (e : Env) : Act := ⟨Array.ofFn (n := n) fun i => e i.val, []⟩
def evn (n : Nat) (e : Env) : Operand → Option Value
  | .tmp t => bif Nat.blt t n then some (e t) else none
  | .const v => some v
  | .global g => some (.pointer (some ⟨g, 0, none⟩))
  | .func f => some (.func (.func f) #[] #[])

theorem set_same (e : Env) (d : Nat) (v : Value) : e.set d v d = v := by simp [Env.set]
theorem set_ne (e : Env) (d i : Nat) (v : Value) (h : i ≠ d) : e.set d v i = e i := by
  have : Nat.beq i d = false := by
    cases hb : Nat.beq i d with
    | false => rfl
    | true => exact absurd (Nat.eq_of_beq_eq_true hb) h
  simp [Env.set, this]

theorem evn_eval {n : Nat} {e : Env} {o : Operand} {v : Value} (h : evn n e o = some v) : (act n e).eval o = v := by
  cases o with
  | tmp t =>
    simp only [evn] at h
    cases ht : Nat.blt t n with
    | false => rw [ht] at h; simp at h
    | true =>
      rw [ht] at h
      have hlt : t < n := by simpa using ht
      simp only [cond_true, Option.some.injEq] at h
      subst h
      simp [Act.eval, act, Array.getD, hlt]
  | const v' => simpa [evn, Act.eval] using h
  | global g => simpa [evn, Act.eval] using h
  | func f => simpa [evn, Act.eval] using h

theorem act_put (n : Nat) (e : Env) (d : Option Nat) (v : Value) : (act n e).put d v = act n (put e d v) := by
  cases d with
  | none => rfl
  | some d =>
    simp only [Act.put, act, put]
    congr 1
    apply Array.ext
    · simp
    · intro i h1 h2
      simp at h1 h2
      simp only [Array.getElem_ofFn]
      by_cases hd : d = i
      · subst hd; simp [set_same]
      · rw [Array.getElem_setIfInBounds_ne (by simpa using h1) hd]; simp [set_ne _ _ _ _ (fun h => hd h.symm)]

/-! ### Weakest preconditions over the function -/
abbrev Post := Exit → Env → World → Prop
def lift (n : Nat) (Q : Post) : Exit → Act → World → Prop := fun x a w => ∃ e, a = act n e ∧ Q x e w
def VC (P : Program) (n : Nat) (c : Code) (Q : Post) (e : Env) (w : World) : Prop := c.wp P (lift n Q) (act n e) w
def VL (P : Program) (n : Nat) (ops : Array Oper) (Q : Post) (l : List Oper) (e : Env) (w : World) : Prop := wpList P ops (lift n Q) l (act n e) w
def thn (K : Env → World → Prop) (Q : Post) : Post
  | .normal, e, w => K e w
  | .exit i, e, w => Q (.exit i) e w
  | .goto i, e, w => Q (.goto i) e w
  | .ret, e, w => Q .ret e w
  | .panic c, e, w => Q (.panic c) e w
  | .outgrown, e, w => Q .outgrown e w
def blk (id : Nat) (Q : Post) : Post
  | .exit i, e, w => bif Nat.beq i id then Q .normal e w else Q (.exit i) e w
  | .normal, e, w => Q .normal e w
  | .goto i, e, w => Q (.goto i) e w
  | .ret, e, w => Q .ret e w
  | .panic c, e, w => Q (.panic c) e w
  | .outgrown, e, w => Q .outgrown e w

section
variable {P : Program} {n : Nat} {Q : Post} {e : Env} {w : World}

theorem VC.mono {c : Code} {Q' : Post} (h : VC P n c Q e w) (hq : ∀ x e w, Q x e w → Q' x e w) : VC P n c Q' e w :=
  wp_mono h (fun _ _ _ ⟨e, h1, h2⟩ => ⟨e, h1, hq _ _ _ h2⟩)
theorem seq {a b : Code} (h : VC P n a (thn (VC P n b Q) Q) e w) : VC P n (.seq a b) Q e w := by
  refine wp_seq (wp_mono h ?_)
  rintro x a w ⟨e, rfl, hq⟩
  cases x <;> first | exact hq | exact ⟨e, rfl, hq⟩
theorem block {id : Nat} {c : Code} (h : VC P n c (blk id Q) e w) : VC P n (.block id c) Q e w := by
  refine wp_block (wp_mono h ?_)
  rintro x a w ⟨e, rfl, hq⟩
  cases x with
  | exit i =>
    simp only [Exit.inBlock]
    by_cases hi : i = id
    · subst hi; simp only [blk] at hq; rw [if_pos rfl]; exact ⟨e, rfl, by simpa using hq⟩
    · rw [if_neg hi]; refine ⟨e, rfl, ?_⟩
      have : Nat.beq i id = false := by
        cases hb : Nat.beq i id with
        | false => rfl
        | true => exact absurd (Nat.eq_of_beq_eq_true hb) hi
      simpa [blk, this] using hq
  | _ => exact ⟨e, rfl, hq⟩
theorem skip (h : Q .normal e w) : VC P n .skip Q e w := wp_skip ⟨e, rfl, h⟩
theorem ret (h : Q .ret e w) : VC P n .ret Q e w := wp_ret ⟨e, rfl, h⟩
theorem exit {id : Nat} (h : Q (.exit id) e w) : VC P n (.exit id) Q e w := wp_exit ⟨e, rfl, h⟩
theorem condT {c : Operand} {x y : Code} {t : Bool} (hc : evn n e c = some (.bool t)) (ht : t = true → VC P n x Q e w) (hf : t = false → VC P n y Q e w) : VC P n (.cond c x y) Q e w := by
  cases t with
  | true => exact wp_cond_true (evn_eval hc) (ht rfl)
  | false => exact wp_cond_false (evn_eval hc) (hf rfl)
theorem condY {c : Operand} {x y : Code} {t : Bool} (hc : evn n e c = some (.bool t)) (htt : t = true) (ht : VC P n x Q e w) : VC P n (.cond c x y) Q e w := by
  subst htt; exact wp_cond_true (evn_eval hc) ht
theorem condN {c : Operand} {x y : Code} {t : Bool} (hc : evn n e c = some (.bool t)) (htt : t = false) (hf : VC P n y Q e w) : VC P n (.cond c x y) Q e w := by
  subst htt; exact wp_cond_false (evn_eval hc) hf
theorem least {p : Nat → Prop} (h : ∃ m, p m) : ∃ m, p m ∧ ∀ k, p k → m ≤ k := by
  obtain ⟨m, hm⟩ := h
  induction m using Nat.strongRecOn with
  | _ m ih =>
    by_cases hs : ∃ k, k < m ∧ p k
    · obtain ⟨k, hk, hp⟩ := hs; exact ih k hk hp
    · exact ⟨m, hm, fun k hk => Nat.le_of_not_lt fun hlt => hs ⟨k, hlt, hk⟩⟩
/-- A loop: what holds at each round's head; a measure. -/
theorem loop {c : Code} (I : Env → World → Prop) (μ : Env → World → Nat) (h₀ : I e w)
    (round : ∀ e w, I e w → VC P n c (thn (fun e' w' => I e' w' ∧ μ e' w' < μ e w) Q) e w) : VC P n (.loop c) Q e w := by
  classical
  let μ' : Act → World → Nat := fun a w => if h : ∃ m, ∃ e, a = act n e ∧ I e w ∧ μ e w = m then Classical.choose (least h) else 0
  refine wp_loop (fun a w => ∃ e, a = act n e ∧ I e w) μ' ⟨e, rfl, h₀⟩ ?_
  rintro a w hI
  have hex : ∃ m, ∃ e, a = act n e ∧ I e w ∧ μ e w = m := by obtain ⟨e, h1, h2⟩ := hI; exact ⟨_, e, h1, h2, rfl⟩
  obtain ⟨⟨e0, ha0, hI0, hμ0⟩, _⟩ := Classical.choose_spec (least hex)
  subst ha0
  have hμa : μ' (act n e0) w = μ e0 w := by simp only [μ']; rw [dif_pos hex, hμ0]
  refine wp_mono (round e0 w hI0) ?_
  rintro x a' w' ⟨e', rfl, hq⟩
  cases x with
  | normal =>
    obtain ⟨h1, h2⟩ := hq
    refine ⟨⟨e', rfl, h1⟩, ?_⟩
    have hex' : ∃ m, ∃ e, act n e' = act n e ∧ I e w' ∧ μ e w' = m := ⟨_, e', rfl, h1, rfl⟩
    have : μ' (act n e') w' ≤ μ e' w' := by simp only [μ']; rw [dif_pos hex']; exact (Classical.choose_spec (least hex')).2 _ ⟨e', rfl, h1, rfl⟩
    omega
  | _ => exact ⟨e', rfl, hq⟩
theorem region {id : Nat} {ops : Array Oper} (h : VL P n ops Q ops.toList e w) : VC P n (.region id ops false) Q e w := wp_region_list h
theorem nil {ops : Array Oper} (h : Q .normal e w) : VL P n ops Q [] e w := ⟨e, rfl, h⟩
end
/-! ### What is known of the types -/
inductive TD where
  | int (k : IntKind)
  | str
  | bool
  | ptr (e : Nat)
  | sl (e : Nat)
  | struct (sz : Nat) (fs : List (Nat × Nat × Nat × Bool))   -- type, offset, cells, a struct or an array itself
  | arr (len : Nat) (e : Nat) (size : Nat) (agg : Bool)
  | map (k e : Nat)
  | fn
abbrev Tab := List (Nat × TD)
def look : Tab → Nat → Option TD
  | [], _ => none
  | (t, d) :: r, i => bif Nat.beq t i then some d else look r i

def aggT (P : Program) (t : Nat) : Bool := match P.underlying t with
  | some (.struct _) | some (.array _ _) => true
  | _ => false
def sizeT (P : Program) (t : Nat) : Option Nat := (P.info? t).map (·.size)
def fieldB (P : Program) (f : Field) (g : Nat × Nat × Nat × Bool) : Bool :=
  f.type == g.1 && f.offset == g.2.1 && sizeT P f.type == some g.2.2.1 && aggT P f.type == g.2.2.2 && (P.underlying f.type).isSome && g.2.2.1 != 0
def fieldsB (P : Program) : List Field → List (Nat × Nat × Nat × Bool) → Bool
  | [], [] => true
  | f :: fs, g :: gs => fieldB P f g && fieldsB P fs gs
  | _, _ => false
def rowB (P : Program) (t : Nat) : TD → Bool
  | .int k => match P.underlying t with | some (.int k') => k == k' | _ => false
  | .str => match P.underlying t with | some .string => true | _ => false
  | .bool => match P.underlying t with | some .bool => true | _ => false
  | .ptr e => match P.underlying t with | some (.pointer e') => e == e' | _ => false
  | .sl e => match P.underlying t with | some (.slice e') => e == e' | _ => false
  | .struct sz fs => match P.underlying t with | some (.struct fields) => fieldsB P fields.toList fs && sizeT P t == some sz | _ => false
  | .arr l e s a => match P.underlying t with | some (.array l' e') => l == l' && e == e' && sizeT P e == some s && aggT P e == a && (P.underlying e).isSome && sizeT P t == some (l * s) | _ => false
  | .map k e => match P.underlying t with | some (.map k' e') => k == k' && e == e' | _ => false
  | .fn => match P.underlying t with | some (.func ..) => true | _ => false
def tabB (P : Program) : Tab → Bool
  | [] => true
  | (t, d) :: r => rowB P t d && tabB P r

theorem look_row {P : Program} {T : Tab} (h : tabB P T = true) {t : Nat} {d : TD} (hl : look T t = some d) : rowB P t d = true := by
  induction T with
  | nil => simp [look] at hl
  | cons x r ih =>
    obtain ⟨i, d'⟩ := x
    simp only [tabB, Bool.and_eq_true] at h
    simp only [look] at hl
    cases hb : Nat.beq i t with
    | true => rw [hb] at hl; simp only [cond_true, Option.some.injEq] at hl; subst hl; have := Nat.eq_of_beq_eq_true hb; subst this; exact h.1
    | false => rw [hb] at hl; exact ih h.2 hl

section
variable {P : Program} {T : Tab} {t : Nat}
theorem look_int (h : tabB P T = true) {k : IntKind} (hl : look T t = some (.int k)) : P.underlying t = some (.int k) := by
  have := look_row h hl
  simp only [rowB] at this
  split at this
  · rename_i k' hk; rw [hk]; have := of_decide_eq_true this; subst this; rfl
  · cases this
theorem look_str (h : tabB P T = true) (hl : look T t = some .str) : P.underlying t = some .string := by
  have := look_row h hl; simp only [rowB] at this; split at this; · assumption
  · cases this
theorem look_bool (h : tabB P T = true) (hl : look T t = some .bool) : P.underlying t = some .bool := by
  have := look_row h hl; simp only [rowB] at this; split at this; · assumption
  · cases this
theorem look_sl (h : tabB P T = true) {e : Nat} (hl : look T t = some (.sl e)) : P.underlying t = some (.slice e) := by
  have := look_row h hl; simp only [rowB] at this; split at this
  · rename_i e' he; rw [he, eq_of_beq this]
  · cases this
theorem look_ptr (h : tabB P T = true) {e : Nat} (hl : look T t = some (.ptr e)) : P.underlying t = some (.pointer e) := by
  have := look_row h hl; simp only [rowB] at this; split at this
  · rename_i e' he; rw [he, eq_of_beq this]
  · cases this
theorem look_fn (h : tabB P T = true) (hl : look T t = some .fn) : ∃ a b c, P.underlying t = some (.func a b c) := by
  have := look_row h hl; simp only [rowB] at this; split at this
  · exact ⟨_, _, _, by assumption⟩
  · cases this
theorem look_map (h : tabB P T = true) {k e : Nat} (hl : look T t = some (.map k e)) : P.underlying t = some (.map k e) := by
  have := look_row h hl; simp only [rowB] at this; split at this
  · rename_i k' e' he; simp only [Bool.and_eq_true] at this; rw [he, eq_of_beq this.1, eq_of_beq this.2]
  · cases this
theorem look_struct (h : tabB P T = true) {sz : Nat} {fs : List (Nat × Nat × Nat × Bool)} (hl : look T t = some (.struct sz fs)) : ∃ fields : Array Field, P.underlying t = some (.struct fields) ∧ fieldsB P fields.toList fs = true ∧ sizeT P t = some sz := by
  have := look_row h hl; simp only [rowB] at this; split at this
  · rename_i fields he; simp only [Bool.and_eq_true, beq_iff_eq] at this; exact ⟨_, he, this.1, this.2⟩
  · cases this
theorem look_arr (h : tabB P T = true) {l e s : Nat} {a : Bool} (hl : look T t = some (.arr l e s a)) : P.underlying t = some (.array l e) ∧ sizeT P e = some s ∧ aggT P e = a ∧ (P.underlying e).isSome = true ∧ sizeT P t = some (l * s) := by
  have := look_row h hl; simp only [rowB] at this; split at this
  · rename_i l' e' he
    simp only [Bool.and_eq_true, beq_iff_eq] at this
    obtain ⟨⟨⟨⟨⟨h1, h2⟩, h3⟩, h4⟩, h5⟩, h6⟩ := this
    subst h1; subst h2
    exact ⟨he, h3, h4, h5, h6⟩
  · cases this
theorem fieldsB_at : ∀ {fields : List Field} {fs : List (Nat × Nat × Nat × Bool)}, fieldsB P fields fs = true → ∀ {i : Nat} {g : Nat × Nat × Nat × Bool}, fs[i]? = some g → ∃ f, fields[i]? = some f ∧ fieldB P f g = true
  | [], [], _, i, g, h => by simp at h
  | f :: fields, g' :: fs, h, i, g, hi => by
    simp only [fieldsB, Bool.and_eq_true] at h
    cases i with
    | zero => simp at hi; subst hi; exact ⟨f, rfl, h.1⟩
    | succ i => simpa using fieldsB_at h.2 (by simpa using hi)
  | [], _ :: _, h, _, _, _ => by simp [fieldsB] at h
  | _ :: _, [], h, _, _, _ => by simp [fieldsB] at h
end
/-! ### Operations that only compute -/
def bin2 (op : BinOp) (k : IntKind) (a b : Int) : Option Value :=
  match op with
  | .add => some (.int k (k.wrap (a + b)))
  | .sub => some (.int k (k.wrap (a - b)))
  | .mul => some (.int k (k.wrap (a * b)))
  | .and => some (.int k (bits .and k a b))
  | .or => some (.int k (bits .or k a b))
  | .xor => some (.int k (bits .xor k a b))
  | .andNot => some (.int k (bits .andNot k a b))
  | .eql => some (.bool (decide (a = b)))
  | .neq => some (.bool (decide (¬ a = b)))
  | .lss => some (.bool (decide (a < b)))
  | .leq => some (.bool (decide (a ≤ b)))
  | .gtr => some (.bool (decide (b < a)))
  | .geq => some (.bool (decide (b ≤ a)))
  | .quo => bif decide (b = 0) then none else some (.int k (k.wrap (a.tdiv b)))
  | .rem => bif decide (b = 0) then none else some (.int k (a.tmod b))
  | _ => none
def bin1 (op : BinOp) (x y : Value) : Option Value :=
  match x, y with
  | .int k a, .int k' b =>
    (match op with
      | .shl => bif decide (b < 0) then none else some (.int k (k.wrap (a * 2 ^ min b.toNat k.bits)))
      | .shr => bif decide (b < 0) then none else some (.int k (a.fdiv (2 ^ min b.toNat k.bits)))
      | _ => bif decide (k = k') then bin2 op k a b else none)
  | .string a, .string b =>
    (match op with
      | .eql => some (.bool (decide (a = b)))
      | .neq => some (.bool (decide (¬ a = b)))
      | .lss => some (.bool (Op.bytesLess a.data.toList b.data.toList))
      | .gtr => some (.bool (!(Op.bytesLess a.data.toList b.data.toList || decide (a = b))))
      | .leq => some (.bool (Op.bytesLess a.data.toList b.data.toList || decide (a = b)))
      | .geq => some (.bool (!(Op.bytesLess a.data.toList b.data.toList)))
      | _ => none)
  | _, _ => none
/-- a value, its head laid open -/
def force : Option Value → Option Value
  | some (.int k a) => some (.int k a)
  | some (.bool b) => some (.bool b)
  | some (.string s) => some (.string s)
  | some (.slice a n c) => some (.slice a n c)
  | some (.pointer a) => some (.pointer a)
  | some (.agg cs) => some (.agg cs)
  | some (.tuple vs) => some (.tuple vs)
  | some (.func f a b) => some (.func f a b)
  | some (.map r) => some (.map r)
  | some .nilFunc => some .nilFunc
  | some .nilIface => some .nilIface
  | some (.iface t v) => some (.iface t v)
  | some (.float k b) => some (.float k b)
  | some (.complex k a b) => some (.complex k a b)
  | some (.chan r) => some (.chan r)
  | none => none
theorem force_eq (x : Option Value) : force x = x := by cases x with
  | none => rfl
  | some v => cases v <;> rfl
def pureOp0 (T : Tab) (n : Nat) (e : Env) : Op → Option Value
  | .move x | .assign x => evn n e x
  | .pick c a b => match evn n e c with
    | some (.bool true) => evn n e a
    | some (.bool false) => evn n e b
    | _ => none
  | .binOp op t x y _ => match evn n e x, evn n e y with
    | some (.pointer a), some (.pointer none) => (match op, look T t with
      | .eql, some (.ptr _) => some (.bool a.isNone)
      | .neq, some (.ptr _) => some (.bool (!a.isNone))
      | _, _ => none)
    | some (.slice a _ _), some (.slice none _ _) => (match op, look T t with
      | .eql, some (.sl _) => some (.bool a.isNone)
      | .neq, some (.sl _) => some (.bool (!a.isNone))
      | _, _ => none)
    | some (.bool a), some (.bool b) => (match op, look T t with
      | .eql, some .bool => some (.bool (a == b))
      | .neq, some .bool => some (.bool (!(a == b)))
      | _, _ => none)
    | some a, some b => bin1 op a b
    | _, _ => none
  | .unOp op _ x => match op, evn n e x with
    | .not, some (.bool b) => some (.bool (!b))
    | .neg, some (.int k a) => some (.int k (k.wrap (0 - a)))
    | .xor, some (.int k a) => some (.int k (bits .xor k (if k.signed then -1 else k.max) a))
    | _, _ => none
  | .convert src dst x => match look T dst, look T src, evn n e x with
    | some (.int k), some (.int _), some (.int _ a) => some (.int k (k.wrap a))
    | _, _, _ => none
  | .extract x i => match evn n e x with
    | some (.tuple vs) => vs.toList[i]?
    | _ => none
  | .field t x f => match look T t, evn n e x with
    | some (.struct _ fs), some (.agg cs) => (match fs[f]? with
      | some (_, off, sz, agg) => bif agg then some (.agg ((cs.toList.drop off).take sz).toArray) else cs.toList[off]?
      | none => none)
    | _, _ => none
  | .fieldAddr t x f => match look T t, evn n e x with
    | some (.struct _ fs), some (.pointer (some ⟨b, o, none⟩)) => (match fs[f]? with
      | some (_, off, _, _) => some (.pointer (some ⟨b, o + off, none⟩))
      | none => none)
    | _, _ => none
  | .nilCheck x => match evn n e x with
    | some (.pointer (some a)) => some (.pointer (some a))
    | some (.func (.func f) a b) => some (.func (.func f) a b)
    | _ => none
  | .makeFunc fn first captured => match first.toList.mapM (evn n e), captured.toList.mapM (evn n e) with
    | some a, some b => some (.func fn a.toArray b.toArray)
    | _, _ => none
  | .call { callee := .builtin .len, args := as, argTypes := ts } => match as.toList, ts.toList with
    | [x], [t] => (match look T t, evn n e x with
      | some .str, some (.string s) => some (.int .i64 s.size)
      | some (.sl _), some (.slice _ m _) => some (.int .i64 m)
      | _, _ => none)
    | _, _ => none
  | .call { callee := .builtin .min, args := as, .. } => match as.toList with
    | [x, y] => (match evn n e x, evn n e y with
      | some (.int k a), some (.int _ b) => some (.int k (min a b))
      | _, _ => none)
    | _ => none
  | .call { callee := .builtin .max, args := as, .. } => match as.toList with
    | [x, y] => (match evn n e x, evn n e y with
      | some (.int k a), some (.int _ b) => some (.int k (max a b))
      | _, _ => none)
    | _ => none
  | _ => none

theorem toList_beq (a b : ByteArray) : (a.toList == b.toList) = decide (a = b) := by
  rw [Bool.eq_iff_iff]
  simp only [beq_iff_eq, decide_eq_true_eq, ByteArray.toList_eq]
  constructor
  · intro h; cases a; cases b; simpa using h
  · intro h; rw [h]

theorem mapM_eval {n : Nat} {e : Env} : ∀ {l : List Operand} {vs : List Value}, l.mapM (evn n e) = some vs → l.map (act n e).eval = vs
  | [], vs, h => by simp at h; simp [h]
  | x :: l, vs, h => by
    simp only [List.mapM_cons, Option.bind_eq_bind, Option.bind_eq_some_iff, Option.pure_def, Option.some.injEq] at h
    obtain ⟨v, h1, vs', h2, rfl⟩ := h
    simp [evn_eval h1, mapM_eval h2]

theorem run_guard_int {P : Program} {w : World} {op : BinOp} {t : Nat} {x y : Operand} {k k' : IntKind} {a b : Int} {f : Unit → Sem Value} : (eqGuard op t x y (.int k a) (.int k' b) >>= f).run P w = (f ()).run P w := by
  simp only [eqGuard]; split <;> rfl
theorem run_guard_str {P : Program} {w : World} {op : BinOp} {t : Nat} {x y : Operand} {a b : ByteArray} {f : Unit → Sem Value} : (eqGuard op t x y (.string a) (.string b) >>= f).run P w = (f ()).run P w := by
  simp only [eqGuard]; split <;> rfl
theorem beq_dec (a b : Int) : (a == b) = decide (a = b) := by
  by_cases h : a = b <;> simp [h]
theorem bne_dec (a b : Int) : (a != b) = decide (¬ a = b) := by
  by_cases h : a = b <;> simp [h]
theorem bin1_run {P : Program} {w : World} {op : BinOp} {t : Nat} {x y : Operand} {a b v : Value} (h : bin1 op a b = some v) :
    (do eqGuard op t x y a b; binOp op t a b : Sem Value).run P w = .ok v w := by
  unfold bin1 at h
  split at h
  · rename_i k a k' b
    rw [run_guard_int]
    split at h
    · by_cases hb : b < 0
      · simp [hb] at h
      · simp only [hb, decide_false, cond_false, Option.some.injEq] at h; subst h
        simp only [binOp, Op.shift, if_neg hb]; rfl
    · by_cases hb : b < 0
      · simp [hb] at h
      · simp only [hb, decide_false, cond_false, Option.some.injEq] at h; subst h
        simp only [binOp, Op.shift, if_neg hb]; rfl
    · rename_i h1 h2
      by_cases hk : k = k'
      · subst hk
        simp only [decide_true, cond_true] at h
        unfold bin2 at h
        cases op <;> simp only [Option.some.injEq, reduceCtorEq] at h <;> first
          | (exfalso; first | exact h1 rfl | exact h2 rfl)
          | (subst h; simp only [binOp, ne_eq, not_true, if_false, Op.intArith, Op.intCmp, beq_dec, bne_dec, gt_iff_lt, ge_iff_le]; rfl)
          | (by_cases hb : b = 0
             · simp [hb] at h
             · simp only [hb, decide_false, cond_false, Option.some.injEq] at h; subst h
               simp only [binOp, ne_eq, not_true, if_false, Op.intDiv, if_neg hb]; rfl)
      · simp [hk] at h
  · rename_i a b
    rw [run_guard_str]
    cases op <;> simp only [Option.some.injEq, reduceCtorEq] at h <;> (subst h; simp only [binOp, Op.stringOp, toList_beq, decide_not]; (try simp only [ByteArray.toList_eq]); rfl)
  · cases h

theorem run_value {P : Program} {w w' : World} {v : Value} {s : Sem Value} (h : s.run P w = .ok v w') : (do pure (.value (← s)) : Sem Next).run P w = .ok (.value v) w' := by
  simp [h]
theorem run_pure_value {P : Program} {w : World} {v : Value} {s : Sem Value} (h : s.run P w = .ok v w) : (do pure (.value (← s)) : Sem Next).run P w = .ok (.value v) w := by
  simp [h]
theorem run_isAgg {P : Program} {w : World} {t : Nat} (h : (P.underlying t).isSome = true) : (isAgg t).run P w = .ok (aggT P t) w := by
  cases hu : P.underlying t with
  | none => rw [hu] at h; cases h
  | some d =>
    have hr := run_underlying hu w
    cases d <;> (unfold aggT; simp only [hu, isAgg, Sem.run_bind, hr]; rfl)
theorem run_sizeOf' {P : Program} {w : World} {t s : Nat} (h : sizeT P t = some s) : (sizeOf t).run P w = .ok s w := by
  simp only [sizeT, Option.map_eq_some_iff] at h
  obtain ⟨i, h1, rfl⟩ := h
  simp [sizeOf, typeInfo, h1]
theorem run_field {P : Program} {w : World} {t : Nat} {fields : Array Field} {f : Field} {i off sz : Nat} {agg : Bool} {cs : Array Value} {v : Value} (hu : P.underlying t = some (.struct fields)) (hf : fields[i]? = some f)
    (ho : f.offset = off) (hs : sizeT P f.type = some sz) (ha : aggT P f.type = agg) (hi : (P.underlying f.type).isSome = true)
    (h : (bif agg then some (.agg ((cs.toList.drop off).take sz).toArray) else cs.toList[off]?) = some v) : (Instr.field t (.agg cs) i).run P w = .ok v w := by
  subst ho
  have h2 := run_isAgg (P := P) (w := w) hi
  rw [ha] at h2
  have hr := run_underlying hu w
  have hs' := run_sizeOf' (w := w) hs
  cases agg with
  | true =>
    simp only [cond_true, Option.some.injEq] at h
    subst h
    simp [Instr.field, hr, hf, asAgg, part, h2, hs']
    apply Array.toList_inj.1
    simp [List.take_drop]
  | false =>
    have : cs[f.offset]? = some v := by simpa using h
    simp [Instr.field, hr, hf, asAgg, part, h2, this]
theorem run_fieldAt {P : Program} {w : World} {t : Nat} {fields : Array Field} {f : Field} {i off sz : Nat} {a : Addr} (hu : P.underlying t = some (.struct fields)) (hf : fields[i]? = some f)
    (ho : f.offset = off) (hs : sizeT P f.type = some sz) (hz : sz ≠ 0) : (Instr.fieldAt t (.pointer (some a)) i).run P w = .ok (.pointer (some (a.add off))) w := by
  subst ho
  simp [Instr.fieldAt, run_underlying hu, hf, Instr.sureAddr, fieldPlace, run_sizeOf' hs, hz]
section
variable {P : Program} {w : World} {t e' : Nat} {x y : Operand}
theorem eqIn_ptr (d : Nat) {a : Option Addr} (h : P.underlying t = some (.pointer e')) : (Op.equalIn (d + 1) t (.pointer a) (.pointer none)).run P w = .ok a.isNone w := by
  cases a <;> simp [Op.equalIn, run_underlying h]
theorem eqIn_sl (d : Nat) {a : Option Addr} {m c m' c' : Nat} (h : P.underlying t = some (.slice e')) : (Op.equalIn (d + 1) t (.slice a m c) (.slice none m' c')).run P w = .ok a.isNone w := by
  cases a <;> simp [Op.equalIn, run_underlying h]
theorem eqIn_bool (d : Nat) {a b : Bool} (h : P.underlying t = some .bool) : (Op.equalIn (d + 1) t (.bool a) (.bool b)).run P w = .ok (a == b) w := by
  simp [Op.equalIn, run_underlying h]
theorem run_eql {x' y' : Value} {r : Bool} (h0 : ∀ op, (eqGuard op t x y x' y').run P w = .ok () w) (h1 : binOp .eql t x' y' = (do pure (.bool (← Op.equalIn (9999 + 1) t x' y')))) (h : (Op.equalIn (9999 + 1) t x' y').run P w = .ok r w) :
    (do eqGuard .eql t x y x' y'; binOp .eql t x' y' : Sem Value).run P w = .ok (.bool r) w := by
  rw [h1]; simp only [Sem.run_bind, h0, Result.andThen_ok, h, Sem.run_pure]
theorem run_neq {x' y' : Value} {r : Bool} (h0 : ∀ op, (eqGuard op t x y x' y').run P w = .ok () w) (h1 : binOp .neq t x' y' = (do pure (.bool (!(← Op.equalIn (9999 + 1) t x' y'))))) (h : (Op.equalIn (9999 + 1) t x' y').run P w = .ok r w) :
    (do eqGuard .neq t x y x' y'; binOp .neq t x' y' : Sem Value).run P w = .ok (.bool (!r)) w := by
  rw [h1]; simp only [Sem.run_bind, h0, Result.andThen_ok, h, Sem.run_pure]
theorem nil_ptr_run {a : Option Addr} (h : P.underlying t = some (.pointer e')) : (do eqGuard .eql t x y (.pointer a) (.pointer none); binOp .eql t (.pointer a) (.pointer none) : Sem Value).run P w = .ok (.bool a.isNone) w :=
  run_eql (fun op => by simp only [eqGuard]; split <;> rfl) (by cases a <;> rfl) (eqIn_ptr _ h)
theorem nil_ptr_run' {a : Option Addr} (h : P.underlying t = some (.pointer e')) : (do eqGuard .neq t x y (.pointer a) (.pointer none); binOp .neq t (.pointer a) (.pointer none) : Sem Value).run P w = .ok (.bool (!a.isNone)) w :=
  run_neq (fun op => by simp only [eqGuard]; split <;> rfl) (by cases a <;> rfl) (eqIn_ptr _ h)
theorem nil_sl_run {a : Option Addr} {m c m' c' : Nat} (h : P.underlying t = some (.slice e')) : (do eqGuard .eql t x y (.slice a m c) (.slice none m' c'); binOp .eql t (.slice a m c) (.slice none m' c') : Sem Value).run P w = .ok (.bool a.isNone) w :=
  run_eql (fun op => by simp only [eqGuard]; split <;> rfl) rfl (eqIn_sl _ h)
theorem nil_sl_run' {a : Option Addr} {m c m' c' : Nat} (h : P.underlying t = some (.slice e')) : (do eqGuard .neq t x y (.slice a m c) (.slice none m' c'); binOp .neq t (.slice a m c) (.slice none m' c') : Sem Value).run P w = .ok (.bool (!a.isNone)) w :=
  run_neq (fun op => by simp only [eqGuard]; split <;> rfl) rfl (eqIn_sl _ h)
theorem bool_eq_run {a b : Bool} (h : P.underlying t = some .bool) : (do eqGuard .eql t x y (.bool a) (.bool b); binOp .eql t (.bool a) (.bool b) : Sem Value).run P w = .ok (.bool (a == b)) w :=
  run_eql (fun op => by simp only [eqGuard]; split <;> rfl) rfl (eqIn_bool _ h)
theorem bool_eq_run' {a b : Bool} (h : P.underlying t = some .bool) : (do eqGuard .neq t x y (.bool a) (.bool b); binOp .neq t (.bool a) (.bool b) : Sem Value).run P w = .ok (.bool (!(a == b))) w :=
  run_neq (fun op => by simp only [eqGuard]; split <;> rfl) rfl (eqIn_bool _ h)
end
def pureOp (T : Tab) (n : Nat) (e : Env) (o : Op) : Option Value := force (pureOp0 T n e o)
theorem pureOp_run {P : Program} {T : Tab} {n : Nat} {e : Env} {w : World} (hT : tabB P T = true) {o : Oper} {v : Value} (h : pureOp T n e o.op = some v) :
    (execOp (act n e).eval o).run P w = .ok (.value v) w := by
  obtain ⟨dst, op, type, pos, after, guard⟩ := o
  simp only at h
  unfold pureOp at h
  rw [force_eq] at h
  unfold pureOp0 at h
  split at h
  · rename_i x; simp only [execOp, evn_eval h]; rfl
  · rename_i x; simp only [execOp, evn_eval h]; rfl
  · rename_i c a b
    split at h
    · rename_i hc; simp only [execOp, evn_eval hc, evn_eval h]; rfl
    · rename_i hc; simp only [execOp, evn_eval hc, evn_eval h]; rfl
    · cases h
  · split at h
    · rename_i hx hy; simp only [execOp, evn_eval hx, evn_eval hy]
      refine run_pure_value ?_
      split at h
      · rename_i hl; cases h; exact nil_ptr_run (look_ptr hT hl)
      · rename_i hl; cases h; exact nil_ptr_run' (look_ptr hT hl)
      · cases h
    · rename_i hx hy; simp only [execOp, evn_eval hx, evn_eval hy]
      refine run_pure_value ?_
      split at h
      · rename_i hl; cases h; exact nil_sl_run (look_sl hT hl)
      · rename_i hl; cases h; exact nil_sl_run' (look_sl hT hl)
      · cases h
    · rename_i hx hy; simp only [execOp, evn_eval hx, evn_eval hy]
      refine run_pure_value ?_
      split at h
      · rename_i hl; cases h; exact bool_eq_run (look_bool hT hl)
      · rename_i hl; cases h; exact bool_eq_run' (look_bool hT hl)
      · cases h
    · rename_i hx hy; simp only [execOp, evn_eval hx, evn_eval hy]; exact run_pure_value (bin1_run h)
    · cases h
  · split at h
    · rename_i hx; cases h; simp only [execOp, evn_eval hx, Op.unary]; rfl
    · rename_i hx; cases h; simp only [execOp, evn_eval hx, Op.unary]; rfl
    · rename_i hx; cases h; simp only [execOp, evn_eval hx, Op.unary]; rfl
    · cases h
  · split at h
    · rename_i h1 h2 hx; cases h
      simp only [execOp, evn_eval hx]
      refine run_pure_value ?_
      simp [convert, run_underlying (look_int hT h1), run_underlying (look_int hT h2), Conv.intToInt]
    · cases h
  · rename_i x i
    split at h
    · rename_i vs hx
      simp only [execOp, evn_eval hx]
      refine run_pure_value ?_
      have : vs[i]? = some v := by simpa using h
      simp [Instr.extract, this]
    · cases h
  · split at h
    · rename_i h1 hx
      split at h
      · rename_i ft off sz agg hf
        obtain ⟨fields, hu, hfs, _⟩ := look_struct hT h1
        obtain ⟨f, hf1, hf2⟩ := fieldsB_at hfs hf
        simp only [fieldB, Bool.and_eq_true, beq_iff_eq] at hf2
        simp only [execOp, evn_eval hx]
        refine run_pure_value ?_
        obtain ⟨⟨⟨⟨⟨h1, h2⟩, h3⟩, h4⟩, h5⟩, h6⟩ := hf2
        refine run_field hu (by simpa using hf1) h2 h3 h4 h5 h
      · cases h
    · cases h
  · split at h
    · rename_i h1 hx
      split at h
      · rename_i ft off sz agg hf
        cases h
        obtain ⟨fields, hu, hfs, _⟩ := look_struct hT h1
        obtain ⟨f, hf1, hf2⟩ := fieldsB_at hfs hf
        simp only [fieldB, Bool.and_eq_true, beq_iff_eq] at hf2
        simp only [execOp, evn_eval hx]
        refine run_pure_value ?_
        obtain ⟨⟨⟨⟨⟨h1, h2⟩, h3⟩, h4⟩, h5⟩, h6⟩ := hf2
        rw [run_fieldAt hu (by simpa using hf1) h2 h3 (by simpa using h6), Addr.add_lit]
      · cases h
    · cases h
  · split at h
    · rename_i hx; cases h; simp only [execOp, evn_eval hx]; rfl
    · rename_i hx; cases h; simp only [execOp, evn_eval hx]; rfl
    · cases h
  · split at h
    · rename_i h1 h2; cases h
      have e1 := congrArg List.toArray (mapM_eval h1)
      have e2 := congrArg List.toArray (mapM_eval h2)
      simp only [← Array.toList_map, Array.toArray_toList] at e1 e2
      simp only [execOp, Instr.makeFunc, e1, e2]; rfl
    · cases h
  · rename_i as ts
    split at h
    · rename_i x t h1 h2
      split at h
      · rename_i hl hx; cases h
        have e1 : as = #[x] := by rw [← Array.toArray_toList (xs := as), h1]
        have e2 : ts = #[t] := by rw [← Array.toArray_toList (xs := ts), h2]
        subst e1; subst e2
        simp [execOp, resolve, invoke, builtin, Builtin.len_, evn_eval hx, run_underlying (look_str hT hl), goInt]
      · rename_i hl hx; cases h
        have e1 : as = #[x] := by rw [← Array.toArray_toList (xs := as), h1]
        have e2 : ts = #[t] := by rw [← Array.toArray_toList (xs := ts), h2]
        subst e1; subst e2
        simp [execOp, resolve, invoke, builtin, Builtin.len_, evn_eval hx, run_underlying (look_sl hT hl), goInt]
      · cases h
    · cases h
  · rename_i as ts
    split at h
    · rename_i x y h1
      split at h
      · rename_i hx hy; cases h
        have e1 : as = #[x, y] := by rw [← Array.toArray_toList (xs := as), h1]
        subst e1
        simp [execOp, resolve, invoke, builtin, Builtin.min_, Builtin.min2, evn_eval hx, evn_eval hy]
        omega
      · cases h
    · cases h
  · rename_i as ts
    split at h
    · rename_i x y h1
      split at h
      · rename_i hx hy; cases h
        have e1 : as = #[x, y] := by rw [← Array.toArray_toList (xs := as), h1]
        subst e1
        simp [execOp, resolve, invoke, builtin, Builtin.max_, Builtin.max2, evn_eval hx, evn_eval hy]
        omega
      · cases h
    · cases h
  · cases h
/-! ### Steps -/
def yldE (ops : Array Oper) (n : Nat) (e : Env) (j : Nat) : Option Bool :=
  match ops.toList[j]? with
  | some o => (match o.dst with
    | some t => (match evn n e (.tmp t) with
      | some (.bool b) => some b
      | _ => none)
    | none => none)
  | none => none
def dstE (ops : Array Oper) (j : Nat) : Option Nat := match ops.toList[j]? with
  | some o => o.dst
  | none => none
theorem yld_run {ops : Array Oper} {n : Nat} {e : Env} {j : Nat} {b : Bool} (h : yldE ops n e j = some b) : yielded ops (act n e).tmps j = some b := by
  unfold yldE at h
  split at h
  · rename_i o ho
    split at h
    · rename_i t ht
      split at h
      · rename_i b' hb
        cases h
        have ho' : ops[j]? = some o := by simpa using ho
        simp only [evn] at hb
        cases hlt : Nat.blt t n with
        | false => rw [hlt] at hb; simp at hb
        | true =>
          rw [hlt] at hb
          have h2 : t < n := by simpa using hlt
          simp only [cond_true, Option.some.injEq] at hb
          simp [yielded, ho', ht, act, h2, hb]
      · cases h
    · cases h
  · cases h
theorem yld_none {ops : Array Oper} {n : Nat} {e : Env} {j : Nat} (h : yldE ops n e j = none) : yielded ops (act n e).tmps j = none := by
  unfold yldE at h
  cases ho : ops.toList[j]? with
  | none =>
    have ho' : ops[j]? = none := by simpa using ho
    simp [yielded, ho']
  | some o =>
    have ho' : ops[j]? = some o := by simpa using ho
    rw [ho] at h
    simp only at h
    cases hd : o.dst with
    | none => simp [yielded, ho', hd]
    | some t =>
      rw [hd] at h
      simp only [evn] at h
      cases hlt : Nat.blt t n with
      | false =>
        have h2 : ¬ t < n := by intro hh; have h3 : Nat.blt t n = true := by simpa using hh
                                rw [h3] at hlt; cases hlt
        simp [yielded, ho', hd, act, h2]
      | true =>
        have h2 : t < n := by simpa using hlt
        rw [hlt] at h
        simp only [cond_true] at h
        cases hv : e t with
        | bool b => rw [hv] at h; simp at h
        | _ => simp [yielded, ho', hd, act, h2, hv]
theorem dst_yld {ops : Array Oper} {n : Nat} {e : Env} {j t : Nat} {b : Bool} (h : yldE ops n e j = some b) (ht : dstE ops j = some t) : e t = .bool b := by
  unfold yldE at h
  unfold dstE at ht
  split at h
  · rename_i o ho
    rw [ho] at ht
    simp only at ht
    rw [ht] at h
    simp only at h
    split at h
    · rename_i b' hb
      cases h
      simp only [evn] at hb
      cases hlt : Nat.blt t n with
      | false => rw [hlt] at hb; simp at hb
      | true => rw [hlt] at hb; simpa using hb
    · cases h
  · cases h
theorem set_self {e : Env} {t : Nat} {v : Value} (h : e t = v) : e.set t v = e := by
  funext i
  by_cases hi : i = t
  · subst hi; rw [set_same, h]
  · rw [set_ne _ _ _ _ hi]

section
variable {P : Program} {n : Nat} {ops : Array Oper} {Q : Post} {e : Env} {w : World} {rest l : List Oper} {o : Oper} {T : Tab}
theorem step0 {v : Value} {w' : World} (hg : o.guard = none) (hr : (execOp (act n e).eval o).run P w = .ok (.value v) w') (k : VL P n ops Q rest (put e o.dst v) w') : VL P n ops Q (o :: rest) e w := by
  refine wpList_plain hg fun K hK => ?_
  unfold Oper.wp
  rw [hr, Oper.upon_value, act_put]
  exact hK _ _ k
theorem step {d : Nat} {v : Value} {w' : World} (hg : o.guard = none) (hd : o.dst = some d) (hr : (execOp (act n e).eval o).run P w = .ok (.value v) w') (k : VL P n ops Q rest (e.set d v) w') : VL P n ops Q (o :: rest) e w :=
  step0 hg hr (by rw [hd]; exact k)
theorem stepS {w' : World} (hg : o.guard = none) (hd : o.dst = none) (hr : (execOp (act n e).eval o).run P w = .ok .skip w') (k : VL P n ops Q rest e w') : VL P n ops Q (o :: rest) e w := by
  refine wpList_plain hg fun K hK => ?_
  unfold Oper.wp
  rw [hr, Oper.upon_skip, act_put, hd]
  exact hK _ _ k
/-- an operation under a guard that says yes -/
theorem yes {j : Nat} {b : Bool} {o' : Oper} (hg : o.guard = some (j, b)) (hy : yldE ops n e j = some b) (ho : { o with guard := none } = o') (k : VL P n ops Q (o' :: rest) e w) : VL P n ops Q (o :: rest) e w := by
  subst ho
  unfold VL wpList at k ⊢
  have h1 : Region.wanted o (yielded ops (act n e).tmps) = true := by simp [Region.wanted, hg, yld_run hy]
  have h2 : Region.wanted { o with guard := none } (yielded ops (act n e).tmps) = true := by simp [Region.wanted]
  rw [if_pos h1]
  rw [if_pos h2] at k
  exact k
theorem no {j : Nat} {b b' : Bool} (hg : o.guard = some (j, b')) (hy : yldE ops n e j = some b) (hne : (b == b') = false) (k : VL P n ops Q rest (put e o.dst undef) w) : VL P n ops Q (o :: rest) e w := by
  unfold VL wpList
  have h1 : ¬ Region.wanted o (yielded ops (act n e).tmps) = true := by simpa [Region.wanted, hg, yld_run hy] using hne
  rw [if_neg h1, act_put]
  exact k
theorem noU {j : Nat} {b' : Bool} (hg : o.guard = some (j, b')) (hy : yldE ops n e j = none) (k : VL P n ops Q rest (put e o.dst undef) w) : VL P n ops Q (o :: rest) e w := by
  unfold VL wpList
  have h1 : ¬ Region.wanted o (yielded ops (act n e).tmps) = true := by simp [Region.wanted, hg, yld_none hy]
  rw [if_neg h1, act_put]
  exact k
/-- the guard's value is made known -/
theorem split {j t : Nat} {b : Bool} (hy : yldE ops n e j = some b) (ht : dstE ops j = some t) (h1 : b = true → VL P n ops Q l (e.set t (.bool true)) w) (h2 : b = false → VL P n ops Q l (e.set t (.bool false)) w) : VL P n ops Q l e w := by
  have h := dst_yld hy ht
  cases b with
  | true => rw [set_self h] at h1; exact h1 rfl
  | false => rw [set_self h] at h2; exact h2 rfl
theorem splitT {j t : Nat} {b : Bool} (hy : yldE ops n e j = some b) (ht : dstE ops j = some t) (hb : b = true) (k : VL P n ops Q l (e.set t (.bool true)) w) : VL P n ops Q l e w :=
  split hy ht (fun _ => k) (fun h => absurd (hb.symm.trans h) (by decide))
theorem splitF {j t : Nat} {b : Bool} (hy : yldE ops n e j = some b) (ht : dstE ops j = some t) (hb : b = false) (k : VL P n ops Q l (e.set t (.bool false)) w) : VL P n ops Q l e w :=
  split hy ht (fun h => absurd (hb.symm.trans h) (by decide)) (fun _ => k)
/-- what a temporary holds is made known -/
theorem known {t : Nat} {v : Value} (h : e t = v) (k : VL P n ops Q l (e.set t v) w) : VL P n ops Q l e w := by rw [set_self h] at k; exact k
theorem knownC {t : Nat} {v : Value} {c : Code} (h : e t = v) (k : VC P n c Q (e.set t v) w) : VC P n c Q e w := by rw [set_self h] at k; exact k

/-- k operations that only compute -/
def runK (T : Tab) (n : Nat) (ops : Array Oper) : Nat → List Oper → Env → Option (Env × List Oper)
  | 0, l, e => some (e, l)
  | k + 1, o :: l, e => (match o.dst with
    | none => none
    | some d => (match o.guard with
      | none => (match pureOp T n e o.op with
        | some v => runK T n ops k l (e.set d v)
        | none => none)
      | some (j, b) => (match yldE ops n e j with
        | some b' => bif b' == b then (match pureOp T n e o.op with
            | some v => runK T n ops k l (e.set d v)
            | none => none) else runK T n ops k l (e.set d undef)
        | none => runK T n ops k l (e.set d undef))))
  | _ + 1, [], _ => none
theorem run (hT : tabB P T = true) : ∀ (k : Nat) {l : List Oper} {e e' : Env}, runK T n ops k l e = some (e', rest) → VL P n ops Q rest e' w → VL P n ops Q l e w
  | 0, l, e, e', h, hk => by simp only [runK, Option.some.injEq, Prod.mk.injEq] at h; obtain ⟨rfl, rfl⟩ := h; exact hk
  | k + 1, [], e, e', h, hk => by simp [runK] at h
  | k + 1, o :: l, e, e', h, hk => by
    simp only [runK] at h
    split at h
    · cases h
    · rename_i d hd
      split at h
      · rename_i hg
        split at h
        · rename_i v hv; exact step hg hd (pureOp_run hT hv) (run hT k h hk)
        · cases h
      · rename_i j b hg
        split at h
        · rename_i b' hy
          cases hb : b' == b with
          | true =>
            rw [hb] at h
            simp only [cond_true] at h
            have : b' = b := eq_of_beq hb
            subst this
            split at h
            · rename_i v hv; exact yes hg hy rfl (step (o := { o with guard := none }) rfl hd (pureOp_run (o := { o with guard := none }) hT hv) (run hT k h hk))
            · cases h
          | false =>
            rw [hb] at h
            refine no hg hy hb ?_
            rw [hd]
            exact run hT k h hk
        · rename_i hy
          refine noU hg hy ?_
          rw [hd]
          exact run hT k h hk

/-- operations under one guard that is not known, that only compute: what they would lay -/
def runG (T : Tab) (n : Nat) (j : Nat) (b : Bool) : Nat → List Oper → Env → Option (List (Option Nat × Value) × Env × List Oper)
  | 0, l, e => some ([], e, l)
  | k + 1, o :: l, e => (match o.dst with
    | none => none
    | some d => (match o.guard with
      | some (j', b') => bif Nat.beq j j' && b == b' then (match pureOp T n e o.op with
          | some v => (match runG T n j b k l (e.set d v) with
            | some (vs, e', r) => some ((some d, v) :: vs, e', r)
            | none => none)
          | none => none) else none
      | none => none))
  | _ + 1, [], _ => none
def layG (b : Bool) : List (Option Nat × Value) → Env → Env
  | [], e => e
  | (d, v) :: vs, e => layG b vs (put e d (bif b then v else undef))
/-- no operation of these writes the temporary t -/
def spares (t : Nat) : List (Option Nat × Value) → Bool
  | [] => true
  | (some d, _) :: vs => !(Nat.beq d t) && spares t vs
  | (none, _) :: vs => spares t vs
end
section
variable {P : Program} {n : Nat} {ops : Array Oper} {Q : Post} {e : Env} {w : World} {rest l : List Oper} {o : Oper} {T : Tab}
theorem yldE_put {d : Option Nat} {v : Value} {j t : Nat} (ht : dstE ops j = some t) (hd : ∀ i, d = some i → i ≠ t) : yldE ops n (put e d v) j = yldE ops n e j := by
  cases d with
  | none => rfl
  | some i =>
    have hne := hd i rfl
    unfold dstE at ht
    unfold yldE
    split at ht
    · simp only [ht, put, evn, set_ne e i t v (fun h => hne h.symm)]
    · cases ht
theorem layG_run (hT : tabB P T = true) {j t : Nat} {b : Bool} (W : Bool) (hbW : (b == W) = true) (ht : dstE ops j = some t) : ∀ (k : Nat) {l : List Oper} {e e1 : Env} {vs : List (Option Nat × Value)}, yldE ops n e j = some b →
    runG T n j W k l e = some (vs, e1, rest) → spares t vs = true → e1 = layG true vs e ∧ (VL P n ops Q rest e1 w → VL P n ops Q l e w)
  | 0, l, e, e1, vs, hy, h, hs => by
    simp only [runG, Option.some.injEq, Prod.mk.injEq] at h; obtain ⟨rfl, rfl, rfl⟩ := h; exact ⟨rfl, id⟩
  | k + 1, [], e, e1, vs, hy, h, hs => by simp [runG] at h
  | k + 1, o :: l, e, e1, vs, hy, h, hs => by
    simp only [runG] at h
    split at h
    · cases h
    · rename_i d hd
      split at h
      · rename_i j' b' hg
        cases hc : Nat.beq j j' && W == b' with
        | false => rw [hc] at h; simp at h
        | true =>
          rw [hc] at h
          simp only [cond_true] at h
          simp only [Bool.and_eq_true, beq_iff_eq] at hc
          have hj : j = j' := Nat.eq_of_beq_eq_true hc.1
          subst hj
          have hW2 : W = b' := hc.2
          subst hW2
          split at h
          · rename_i v hv
            split at h
            · rename_i vs' e' r hr
              simp only [Option.some.injEq, Prod.mk.injEq] at h
              obtain ⟨rfl, rfl, hr3⟩ := h
              have hr4 := hr3.symm
              subst hr4
              simp only [spares, Bool.and_eq_true, Bool.not_eq_true'] at hs
              have hdt : ∀ i, (some d : Option Nat) = some i → i ≠ t := by
                intro i hi
                cases hi
                intro h0
                subst h0
                simp at hs
              have hy' : yldE ops n (e.set d v) j = some b := by rw [← hy]; exact yldE_put (d := some d) ht hdt
              have ih := layG_run hT W hbW ht k hy' hr hs.2
              refine ⟨by rw [ih.1]; simp [layG, put], fun hK => ?_⟩
              have hbb : b = W := eq_of_beq hbW
              subst hbb
              exact yes hg hy rfl (step (o := { o with guard := none }) rfl hd (pureOp_run (o := { o with guard := none }) hT hv) (ih.2 hK))
            · cases h
          · cases h
      · cases h
theorem layG_skip {j t : Nat} {b : Bool} (W : Bool) (hbW : (b == W) = false) (ht : dstE ops j = some t) : ∀ (k : Nat) {l : List Oper} {e e0 e1 : Env} {vs : List (Option Nat × Value)}, yldE ops n e j = some b →
    runG T n j W k l e0 = some (vs, e1, rest) → spares t vs = true → (VL P n ops Q rest (layG false vs e) w → VL P n ops Q l e w)
  | 0, l, e, e0, e1, vs, hy, h, hs => by
    simp only [runG, Option.some.injEq, Prod.mk.injEq] at h; obtain ⟨rfl, rfl, rfl⟩ := h; exact id
  | k + 1, [], e, e0, e1, vs, hy, h, hs => by simp [runG] at h
  | k + 1, o :: l, e, e0, e1, vs, hy, h, hs => by
    simp only [runG] at h
    split at h
    · cases h
    · rename_i d hd
      split at h
      · rename_i j' b' hg
        cases hc : Nat.beq j j' && W == b' with
        | false => rw [hc] at h; simp at h
        | true =>
          rw [hc] at h
          simp only [cond_true] at h
          simp only [Bool.and_eq_true, beq_iff_eq] at hc
          have hj : j = j' := Nat.eq_of_beq_eq_true hc.1
          subst hj
          have hW2 : W = b' := hc.2
          subst hW2
          split at h
          · rename_i v hv
            split at h
            · rename_i vs' e' r hr
              simp only [Option.some.injEq, Prod.mk.injEq] at h
              obtain ⟨rfl, rfl, hr3⟩ := h
              have hr4 := hr3.symm
              subst hr4
              simp only [spares, Bool.and_eq_true, Bool.not_eq_true'] at hs
              have hdt : ∀ i, (some d : Option Nat) = some i → i ≠ t := by
                intro i hi
                cases hi
                intro h0
                subst h0
                simp at hs
              have hy' : yldE ops n (e.set d undef) j = some b := by rw [← hy]; exact yldE_put (d := some d) ht hdt
              intro hK
              refine no hg hy hbW ?_
              rw [hd]
              exact layG_skip W hbW ht k hy' hr hs.2 (by simpa [layG, put] using hK)
            · cases h
          · cases h
      · cases h
theorem layG_at {t : Nat} {b : Bool} : ∀ {vs : List (Option Nat × Value)} {e : Env}, spares t vs = true → layG b vs e t = e t
  | [], e, h => rfl
  | (none, v) :: vs, e, h => by simp only [layG, put]; exact layG_at h
  | (some d, v) :: vs, e, h => by
    simp only [spares, Bool.and_eq_true, Bool.not_eq_true'] at h
    simp only [layG]
    rw [layG_at h.2, put, set_ne]
    intro h0; subst h0; simp at h
theorem evn_at {t : Nat} {v : Value} (h : evn n e (.tmp t) = some v) : e t = v ∧ Nat.blt t n = true := by
  simp only [evn] at h
  cases hlt : Nat.blt t n with
  | false => rw [hlt] at h; simp at h
  | true => rw [hlt] at h; exact ⟨by simpa using h, rfl⟩
theorem yld_evn {j t : Nat} {b : Bool} (hy : yldE ops n e j = some b) (ht : dstE ops j = some t) : Nat.blt t n = true := by
  unfold yldE at hy
  unfold dstE at ht
  split at hy
  · rename_i o ho
    rw [ho] at ht
    simp only at ht
    rw [ht] at hy
    simp only at hy
    split at hy
    · rename_i hb; exact (evn_at hb).2
    · cases hy
  · cases hy
/-- 'b || x', x being reckoned under b's guard -/
theorem orG (hT : tabB P T = true) (k : Nat) (j t : Nat) {b xv : Bool} {d : Nat} {x : Operand} {e1 : Env} {vs : List (Option Nat × Value)} (hy : yldE ops n e j = some b) (ht : dstE ops j = some t)
    (h : runG T n j false k l (e.set t (.bool false)) = some (vs, e1, o :: rest)) (hs : spares t vs = true) (hg : o.guard = none) (hd : o.dst = some d) (ho : o.op = .pick (.tmp t) (.const (.bool true)) x)
    (hx : evn n e1 x = some (.bool xv)) (K : VL P n ops Q rest ((layG (!b) vs e).set d (.bool (b || xv))) w) : VL P n ops Q l e w := by
  have het := dst_yld hy ht
  have hlt := yld_evn hy ht
  cases b with
  | false =>
    rw [set_self het] at h
    obtain ⟨he1, hk⟩ := layG_run (Q := Q) (w := w) hT false rfl ht k hy h hs
    refine hk (step hg hd (pureOp_run (T := T) (v := .bool xv) hT ?_) ?_)
    · rw [ho]
      have : evn n e1 (.tmp t) = some (.bool false) := by rw [he1]; simp [evn, hlt, layG_at hs, het]
      simp only [pureOp, force_eq, pureOp0, this, hx]
    · rw [he1]; simpa using K
  | true =>
    refine layG_skip false rfl ht k hy h hs (step hg hd (pureOp_run (T := T) (v := .bool true) hT ?_) ?_)
    · rw [ho]
      have : evn n (layG false vs e) (.tmp t) = some (.bool true) := by simp [evn, hlt, layG_at hs, het]
      simp only [pureOp, force_eq, pureOp0, this]; rfl
    · simpa using K
/-- 'b && x', x being reckoned under b's guard -/
theorem andG (hT : tabB P T = true) (k : Nat) (j t : Nat) {b xv : Bool} {d : Nat} {x : Operand} {e1 : Env} {vs : List (Option Nat × Value)} (hy : yldE ops n e j = some b) (ht : dstE ops j = some t)
    (h : runG T n j true k l (e.set t (.bool true)) = some (vs, e1, o :: rest)) (hs : spares t vs = true) (hg : o.guard = none) (hd : o.dst = some d) (ho : o.op = .pick (.tmp t) x (.const (.bool false)))
    (hx : evn n e1 x = some (.bool xv)) (K : VL P n ops Q rest ((layG b vs e).set d (.bool (b && xv))) w) : VL P n ops Q l e w := by
  have het := dst_yld hy ht
  have hlt := yld_evn hy ht
  cases b with
  | true =>
    rw [set_self het] at h
    obtain ⟨he1, hk⟩ := layG_run (Q := Q) (w := w) hT true rfl ht k hy h hs
    refine hk (step hg hd (pureOp_run (T := T) (v := .bool xv) hT ?_) ?_)
    · rw [ho]
      have : evn n e1 (.tmp t) = some (.bool true) := by rw [he1]; simp [evn, hlt, layG_at hs, het]
      simp only [pureOp, force_eq, pureOp0, this, hx]
    · rw [he1]; simpa using K
  | false =>
    refine layG_skip true rfl ht k hy h hs (step hg hd (pureOp_run (T := T) (v := .bool false) hT ?_) ?_)
    · rw [ho]
      have : evn n (layG false vs e) (.tmp t) = some (.bool false) := by simp [evn, hlt, layG_at hs, het]
      simp only [pureOp, force_eq, pureOp0, this]; rfl
    · simpa using K
end
/-! ### Frames and facts -/
/-- From w to w' no block of w has turned but those of S. -/
structure Fr (S : List Nat) (w w' : World) : Prop where
  os : w'.os = w.os
  tape : w'.tape = w.tape
  output : w'.output = w.output
  size : w.heap.size ≤ w'.heap.size
  block : ∀ k, k < w.heap.size → k ∉ S → w'.heap[k]? = w.heap[k]?
theorem Fr.refl (S : List Nat) (w : World) : Fr S w w := ⟨rfl, rfl, rfl, Nat.le_refl _, fun _ _ _ => rfl⟩
theorem Fr.trans {S S' : List Nat} {a b c : World} (h : Fr S a b) (k : Fr S' b c) : Fr (S ++ S') a c :=
  ⟨k.os.trans h.os, k.tape.trans h.tape, k.output.trans h.output, Nat.le_trans h.size k.size, fun i hi hn => by
    simp only [List.mem_append, not_or] at hn
    exact (k.block i (Nat.lt_of_lt_of_le hi h.size) hn.2).trans (h.block i hi hn.1)⟩
theorem Fr.mono {S S' : List Nat} {a b : World} (h : Fr S a b) (hs : ∀ k, k ∈ S → k < a.heap.size → k ∈ S') : Fr S' a b :=
  ⟨h.os, h.tape, h.output, h.size, fun i hi hn => h.block i hi (fun hm => hn (hs i hm hi))⟩
/-- nothing that was there has turned -/
abbrev Gr (w w' : World) : Prop := Fr [] w w'
theorem Gr.trans {a b c : World} (h : Gr a b) (k : Gr b c) : Gr a c := Fr.trans h k
theorem Fr.gr {S : List Nat} {a b c : World} (h : Fr S a b) (k : Gr b c) : Fr S a c := by simpa using Fr.trans h k
theorem Gr.fr {S : List Nat} {a b c : World} (h : Gr a b) (k : Fr S b c) : Fr S a c := by simpa using Fr.trans h k
/-- what turned lay behind what was there -/
theorem Gr.new {S : List Nat} {a b c : World} (h : Gr a b) (k : Fr S b c) (hs : ∀ i, i ∈ S → a.heap.size ≤ i) : Gr a c :=
  (Gr.fr h k).mono (fun i hm hi => absurd hi (by have := hs i hm; omega))
theorem Fr.dup {S : List Nat} {a b c : World} (h : Fr S a b) (k : Fr S b c) : Fr S a c := (Fr.trans h k).mono (by intro i hi _; simpa using hi)
theorem Fr.new {S S' : List Nat} {a b c : World} (h : Fr S a b) (k : Fr S' b c) (hs : ∀ i, i ∈ S' → i ∈ S ∨ a.heap.size ≤ i) : Fr S a c :=
  (Fr.trans h k).mono (fun i hm hi => by
    rcases List.mem_append.1 hm with h1 | h1
    · exact h1
    · rcases hs i h1 with h2 | h2
      · exact h2
      · omega)
theorem gr_drew (w : World) : Gr w w.drew := ⟨rfl, rfl, rfl, Nat.le_refl _, fun _ _ _ => rfl⟩
theorem gr_alloc (w : World) (o : Obj) : Gr w (w.alloc o) := ⟨rfl, rfl, rfl, by simp, fun k hk _ => Below.heap_alloc _ _ _ hk⟩
theorem fr_setRow (w : World) (g : Nat) (cs : Array Value) : Fr [g] w (w.setRow g cs) :=
  ⟨rfl, rfl, rfl, by simp, fun k _ hn => setRow_other w g k cs (by simpa using hn)⟩
/-- block k is a row of these cells -/
def Cells (w : World) (k : Nat) (cs : List Value) (t : Nat) : Prop := w.heap[k]? = some (.cells cs.toArray t (0, 0))
theorem Cells.lt {w : World} {k t : Nat} {cs : List Value} (h : Cells w k cs t) : k < w.heap.size := (Array.getElem?_eq_some_iff.1 h).1
theorem Cells.mv {S : List Nat} {w w' : World} {k t : Nat} {cs : List Value} (h : Cells w k cs t) (f : Fr S w w') (hn : ∀ i, i ∈ S → i ≠ k) : Cells w' k cs t :=
  (f.block k h.lt (fun hm => hn k hm rfl)).trans h
theorem Cells.gr {w w' : World} {k t : Nat} {cs : List Value} (h : Cells w k cs t) (f : Gr w w') : Cells w' k cs t := h.mv f (by simp)
/-- from address (b, o) on lie these cells -/
def At (w : World) (b o : Nat) (cs : List Value) : Prop := ∀ j u, cs[j]? = some u → w.cell? ⟨b, o + j, none⟩ = some u
theorem Cells.at_ {w : World} {k t : Nat} {cs : List Value} (h : Cells w k cs t) : At w k 0 cs := by
  intro j u hu
  rw [Cells] at h
  simp [World.cell?, h, hu]
theorem At.lt {w : World} {b o : Nat} {cs : List Value} (h : At w b o cs) (hn : 0 < cs.length) : b < w.heap.size :=
  World.block_lt_of_cell? w _ (h 0 cs[0] (List.getElem?_eq_getElem hn))
theorem At.mv {S : List Nat} {w w' : World} {b o : Nat} {cs : List Value} (h : At w b o cs) (f : Fr S w w') (hn : ∀ i, i ∈ S → i ≠ b) : At w' b o cs := by
  intro j u hu
  have h1 := h j u hu
  rw [World.cell?_of_block (w := w) (a := ⟨b, o + j, none⟩) (f.block b (World.block_lt_of_cell? w _ h1) (fun hm => hn b hm rfl))]
  exact h1

/-! ### How values of a type lie in cells -/
structure Cod (α : Type) where
  sz : Nat
  R : World → (Nat → Prop) → α → List Value → Prop
  len : ∀ {w D x cs}, R w D x cs → cs.length = sz
  one : ∀ {w D x cs}, R w D x cs → ∀ u ∈ cs, u.oneCell' = true
  mv : ∀ {S : List Nat} {w w' : World} {D x cs}, R w D x cs → Fr S w w' → (∀ i, i ∈ S → ¬ D i) → R w' D x cs
  mono : ∀ {w} {D D' : Nat → Prop} {x cs}, R w D x cs → (∀ k, D k → D' k) → R w D' x cs

namespace Cod
def flat {α : Type} (enc : α → Value) (h1 : ∀ x, (enc x).oneCell' = true) : Cod α where
  sz := 1
  R := fun _ _ x cs => cs = [enc x]
  len := by rintro w D x cs rfl; rfl
  one := by rintro w D x cs rfl u hu; simp at hu; subst hu; exact h1 x
  mv := fun h _ _ => h
  mono := fun h _ => h
def byte : Cod UInt8 := flat (fun b => .int .u8 (b.toNat : Int)) (fun _ => rfl)
def int (k : IntKind) : Cod Int := flat (fun n => .int k n) (fun _ => rfl)
def bool : Cod Bool := flat .bool (fun _ => rfl)
def str : Cod ByteArray := flat .string (fun _ => rfl)
def pair {α β : Type} (A : Cod α) (B : Cod β) : Cod (α × β) where
  sz := A.sz + B.sz
  R := fun w D x cs => ∃ c1 c2, cs = c1 ++ c2 ∧ A.R w D x.1 c1 ∧ B.R w D x.2 c2
  len := by rintro w D x cs ⟨c1, c2, rfl, h1, h2⟩; rw [List.length_append, A.len h1, B.len h2]
  one := by
    rintro w D x cs ⟨c1, c2, rfl, h1, h2⟩ u hu
    rcases List.mem_append.1 hu with hu | hu
    · exact A.one h1 u hu
    · exact B.one h2 u hu
  mv := by rintro S w w' D x cs ⟨c1, c2, rfl, h1, h2⟩ f hs; exact ⟨c1, c2, rfl, A.mv h1 f hs, B.mv h2 f hs⟩
  mono := by rintro w D D' x cs ⟨c1, c2, rfl, h1, h2⟩ ha; exact ⟨c1, c2, rfl, A.mono h1 ha, B.mono h2 ha⟩
end Cod

/-- The slice (a, xs.length, c) has these elements, in blocks from lo below hi. -/
structure Sl {α : Type} (C : Cod α) (w : World) (D : Nat → Prop) (a : Option Addr) (c : Nat) (xs : List α) : Prop where
  cap : xs.length ≤ c
  max : c ≤ maxLen
  els : 0 < xs.length → ∃ b o, a = some ⟨b, o, none⟩ ∧ D b ∧ ∀ i (h : i < xs.length), ∃ cs, C.R w D xs[i] cs ∧ At w b (o + i * C.sz) cs
theorem Sl.mv {α : Type} {C : Cod α} {S : List Nat} {w w' : World} {D : Nat → Prop} {a : Option Addr} {c : Nat} {xs : List α} (h : Sl C w D a c xs) (f : Fr S w w') (hs : ∀ i, i ∈ S → ¬ D i) : Sl C w' D a c xs :=
  ⟨h.cap, h.max, fun hn => by
    obtain ⟨b, o, h1, h2, h4⟩ := h.els hn
    refine ⟨b, o, h1, h2, fun i hi => ?_⟩
    obtain ⟨cs, h5, h6⟩ := h4 i hi
    exact ⟨cs, C.mv h5 f hs, h6.mv f (fun j hj e => hs j hj (e ▸ h2))⟩⟩
theorem Sl.gr {α : Type} {C : Cod α} {w w' : World} {D : Nat → Prop} {a : Option Addr} {c : Nat} {xs : List α} (h : Sl C w D a c xs) (f : Gr w w') : Sl C w' D a c xs := h.mv f (by simp)
theorem Sl.mono {α : Type} {C : Cod α} {w : World} {D D' : Nat → Prop} {a : Option Addr} {c : Nat} {xs : List α} (h : Sl C w D a c xs) (h1 : ∀ k, D k → D' k) : Sl C w D' a c xs :=
  ⟨h.cap, h.max, fun hn => by
    obtain ⟨b, o, h3, h4, h6⟩ := h.els hn
    refine ⟨b, o, h3, h1 _ h4, fun i hi => ?_⟩
    obtain ⟨cs, h7, h8⟩ := h6 i hi
    exact ⟨cs, C.mono h7 h1, h8⟩⟩
theorem Sl.nil {α : Type} (C : Cod α) (w : World) (D : Nat → Prop) (a : Option Addr) (c : Nat) (h : c ≤ maxLen) : Sl C w D a c [] := ⟨Nat.zero_le _, h, fun h => absurd h (by simp)⟩
namespace Cod
def sl {α : Type} (C : Cod α) : Cod (List α) where
  sz := 1
  R := fun w D xs cs => ∃ a c, cs = [.slice a xs.length c] ∧ Sl C w D a c xs
  len := by rintro w D x cs ⟨a, c, rfl, _⟩; rfl
  one := by rintro w D x cs ⟨a, c, rfl, _⟩ u hu; simp at hu; subst hu; rfl
  mv := by rintro S w w' D x cs ⟨a, c, rfl, h⟩ f hs; exact ⟨a, c, rfl, h.mv f hs⟩
  mono := by rintro w D D' x cs ⟨a, c, rfl, h⟩ h1; exact ⟨a, c, rfl, h.mono h1⟩
end Cod
abbrev Bytes := Sl Cod.byte

/-! ### Functions -/
def Callable (P : Program) (f : Nat) : Prop := ∃ fn, P.funcs[f]? = some fn ∧ (fn.name == "runtime.NumGoroutine") = false ∧ fn.body.isNone = false
/-- Called so, the function hands back a value; of that, and of the world behind, Φ holds. -/
def Meets (P : Program) (f : Nat) (args : List Value) (w : World) (Φ : Value → World → Prop) : Prop :=
  Callable P f ∧ Calls P f args.toArray w fun e w' => ∃ v, e = .returned v ∧ Φ v w'
theorem Meets.mono {P : Program} {f : Nat} {args : List Value} {w : World} {Φ Ψ : Value → World → Prop} (h : Meets P f args w Φ) (hq : ∀ v w', Φ v w' → Ψ v w') : Meets P f args w Ψ :=
  ⟨h.1, h.2.mono fun _ _ ⟨v, h1, h2⟩ => ⟨v, h1, hq v _ h2⟩⟩
def fin (P : Program) (n : Nat) (fn : Func) (Φ : Value → World → Prop) : Post
  | .ret, e, w | .normal, e, w => ∃ v, (results fn (act n e).tmps).run P w = .ok v w ∧ Φ v w
  | _, _, _ => False
def ofArgs (args : List Value) : Env := fun i => args.getD i undef
theorem enter {P : Program} {f : Nat} {fn : Func} {c : Code} {n : Nat} {args : List Value} {w : World} {Φ : Value → World → Prop} (hf : P.funcs[f]? = some fn) (hb : fn.body = some c) (hn : fn.ntmps = n)
    (hnm : (fn.name == "runtime.NumGoroutine") = false) (hl : Nat.ble args.length n = true) (h : VC P n c (fin P n fn Φ) (ofArgs args) w) : Meets P f args w Φ := by
  refine ⟨⟨fn, hf, hnm, by rw [hb]; rfl⟩, calls_of_wp hf hb ?_⟩
  subst hn
  have hl' : args.length ≤ fn.ntmps := Nat.le_of_ble_eq_true hl
  have e1 : ({ tmps := args.toArray ++ Array.replicate (fn.ntmps - args.toArray.size) undef, defers := [] } : Act) = act fn.ntmps (ofArgs args) := by
    unfold act
    congr 1
    apply Array.ext
    · simp; omega
    · intro i h1 h2
      simp only [Array.getElem_ofFn, ofArgs]
      by_cases hi : i < args.length
      · rw [Array.getElem_append_left (by simpa using hi)]; simp [List.getD, hi]
      · rw [Array.getElem_append_right (by simpa using hi)]; simp [List.getD, hi]
  rw [e1]
  refine Code.wp_mono ?_ h
  rintro x a w ⟨e, rfl, hq⟩
  cases x <;> first
    | exact hq.elim
    | (obtain ⟨v, h1, h2⟩ := hq; exact ⟨rfl, v, h1, v, rfl, h2⟩)
def resL (n : Nat) (e : Env) : List ResultVar → Option (List Value)
  | [] => some []
  | .tmp t :: l => (match force (evn n e (.tmp t)), resL n e l with
    | some v, some vs => some (v :: vs)
    | _, _ => none)
  | _ :: _ => none
def resE (fn : Func) (n : Nat) (e : Env) : Option Value := match resL n e fn.results.toList with
  | some [v] => some v
  | some vs => some (.tuple vs.toArray)
  | none => none
def resF (n : Nat) (e : Env) : ResultVar → Sem Value
  | .tmp t => pure ((act n e).tmps.getD t undef)
  | .cell a t => do loadVar t (← asAddr ((act n e).tmps.getD a undef))
theorem resL_run {P : Program} {n : Nat} {e : Env} {w : World} : ∀ {l : List ResultVar} {vs : List Value}, resL n e l = some vs → (l.mapM (resF n e)).run P w = .ok vs w
  | [], vs, h => by simp [resL] at h; subst h; simp
  | .tmp t :: l, vs, h => by
    simp only [resL] at h
    split at h
    · rename_i v vs' h1 h2
      cases h
      rw [force_eq] at h1
      have h3 := evn_eval h1
      simp only [Act.eval] at h3
      simp only [List.mapM_cons, Sem.run_bind, resF, h3, Sem.run_pure, Result.andThen_ok, resL_run h2]
    · cases h
  | .cell a t :: l, vs, h => by simp [resL] at h
theorem results_eq (fn : Func) (n : Nat) (e : Env) : results fn (act n e).tmps = (do
    let vs ← fn.results.mapM (resF n e)
    pure (if h : vs.size = 1 then vs[0] else .tuple vs) : Sem Value) := by
  unfold results
  congr 1
theorem done {P : Program} {n : Nat} {fn : Func} {Φ : Value → World → Prop} {e : Env} {w : World} {v : Value} (h : resE fn n e = some v) (hq : Φ v w) : fin P n fn Φ .ret e w := by
  refine ⟨v, ?_, hq⟩
  unfold resE at h
  rw [results_eq]
  have key : ∀ vs, resL n e fn.results.toList = some vs → (fn.results.mapM (resF n e)).run P w = .ok vs.toArray w := by
    intro vs hvs
    rw [Array.mapM_eq_mapM_toList]
    simp [resL_run hvs]
  split at h
  · rename_i v' hv; cases h; simp [key _ hv]
  · rename_i vs hne hv; cases h
    simp only [Sem.run_bind, key _ hv, Result.andThen_ok]
    have : vs.length ≠ 1 := by
      intro h1
      obtain ⟨v, rfl⟩ := List.length_eq_one_iff.1 h1
      exact hne v rfl
    simp [this]
  · cases h
theorem doneN {P : Program} {n : Nat} {fn : Func} {Φ : Value → World → Prop} {e : Env} {w : World} {v : Value} (h : resE fn n e = some v) (hq : Φ v w) : fin P n fn Φ .normal e w := done (P := P) h hq

def callE (n : Nat) (e : Env) (o : Oper) : Option (Nat × List Value) := match o.op with
  | .call { callee := .value f, args := as, .. } => (match evn n e f, as.toList.mapM (evn n e) with
    | some (.func (.func k) first cap), some l => some (k, first.toList ++ (l ++ cap.toList))
    | _, _ => none)
  | _ => none
section
variable {P : Program} {n : Nat} {ops : Array Oper} {Q : Post} {e : Env} {w : World} {rest l : List Oper} {o : Oper} {d : Nat} {T : Tab}
theorem callE_run {k : Nat} {args : List Value} (hs : Callable P k) (hc : callE n e o = some (k, args)) : (execOp (act n e).eval o).run P w = .ok (.enter k args.toArray) w := by
  obtain ⟨fn, hf, hnm, hb⟩ := hs
  unfold callE at hc
  split at hc
  · rename_i f as at_ hop
    split at hc
    · rename_i k' first cap l' h1 h2
      simp only [Option.some.injEq, Prod.mk.injEq] at hc
      obtain ⟨rfl, rfl⟩ := hc
      have e1 := congrArg List.toArray (mapM_eval h2)
      simp only [← Array.toList_map, Array.toArray_toList] at e1
      have hnm' : ¬ fn.name = "runtime.NumGoroutine" := by simpa using hnm
      have hb' : ¬ fn.body = none := by intro h0; rw [h0] at hb; cases hb
      simp [execOp, hop, resolve, evn_eval h1, e1, Deferred.ofValue, invoke, callFunc, hf, hnm', hb']
    · cases hc
  · cases hc
theorem call {k : Nat} {args : List Value} {Φ : Value → World → Prop} (hs : Meets P k args w Φ) (hc : callE n e o = some (k, args)) (hg : o.guard = none) (hd : o.dst = some d)
    (K : ∀ v w', Φ v w' → VL P n ops Q rest (e.set d v) w') : VL P n ops Q (o :: rest) e w := by
  obtain ⟨⟨fn, hf, hnm, hb⟩, hcalls⟩ := hs
  refine wpList_plain hg fun KK hK => ?_
  unfold Oper.wp
  have hrun : (execOp (act n e).eval o).run P w = .ok (.enter k args.toArray) w := by
    unfold callE at hc
    split at hc
    · rename_i f as at_ hop
      split at hc
      · rename_i k' first cap l' h1 h2
        simp only [Option.some.injEq, Prod.mk.injEq] at hc
        obtain ⟨rfl, rfl⟩ := hc
        have e1 := congrArg List.toArray (mapM_eval h2)
        simp only [← Array.toList_map, Array.toArray_toList] at e1
        have hnm' : ¬ fn.name = "runtime.NumGoroutine" := by simpa using hnm
        have hb' : ¬ fn.body = none := by intro h0; rw [h0] at hb; cases hb
        simp [execOp, hop, resolve, evn_eval h1, e1, Deferred.ofValue, invoke, callFunc, hf, hnm', hb']
      · cases hc
    · cases hc
  rw [hrun, Oper.upon_enter]
  refine hcalls.mono ?_
  rintro _ w' ⟨v, rfl, hv⟩
  simp only [act_put, hd]
  exact hK _ _ (K v w' hv)
end
/-! ### Memory -/
def zeroT (P : Program) (t : Nat) : Option Value := (P.info? t).bind (·.zero)
theorem run_zero {P : Program} {w : World} {t : Nat} {z : Value} (h : zeroT P t = some z) : (zeroValue t).run P w = .ok z w := by
  unfold zeroT at h
  rw [Option.bind_eq_some_iff] at h
  obtain ⟨i, h1, h2⟩ := h
  simp [zeroValue, typeInfo, h1, h2]
/-- cells of a value (a literal's) -/
def cellsL : Value → List Value
  | .agg cs => cs.toList
  | v => [v]
theorem cellsL_eq (v : Value) : v.cells = (cellsL v).toArray := by cases v <;> rfl
/-- what a load of type t hands back out of these cells, from place off on -/
def loadC (T : Tab) (t : Nat) (cs : List Value) (off : Nat) : Option Value := match look T t with
  | some (.struct sz _) => bif Nat.ble (off + sz) cs.length then some (.agg ((cs.drop off).take sz).toArray) else none
  | some (.arr l _ s _) => bif Nat.ble (off + l * s) cs.length then some (.agg ((cs.drop off).take (l * s)).toArray) else none
  | some _ => cs[off]?
  | none => none
/-- the cells behind a store -/
def spliceL : List Value → Nat → List Value → List Value
  | cs, 0, [] => cs
  | _ :: cs, 0, v :: vs => v :: spliceL cs 0 vs
  | c :: cs, o + 1, vs => c :: spliceL cs o vs
  | [], _, _ => []
theorem spliceL_eq : ∀ (cs : List Value) (o : Nat) (vs : List Value), o + vs.length ≤ cs.length → spliceL cs o vs = cs.take o ++ vs ++ cs.drop (o + vs.length)
  | cs, 0, [], _ => by cases cs <;> simp [spliceL]
  | [], 0, v :: vs, h => by simp at h
  | c :: cs, 0, v :: vs, h => by
    have := spliceL_eq cs 0 vs (by simp at h ⊢; omega)
    simp only [spliceL, this]; simp [Nat.add_comm]
  | [], o + 1, vs, h => by simp at h
  | c :: cs, o + 1, vs, h => by
    have := spliceL_eq cs o vs (by simp at h ⊢; omega)
    simp only [spliceL, this]; simp [show o + 1 + vs.length = (o + vs.length) + 1 by omega]
theorem spliceL_len : ∀ (cs : List Value) (o : Nat) (vs : List Value), (spliceL cs o vs).length = cs.length
  | cs, 0, [] => by cases cs <;> simp [spliceL]
  | [], 0, v :: vs => by simp [spliceL]
  | c :: cs, 0, v :: vs => by simp [spliceL, spliceL_len cs 0 vs]
  | [], o + 1, vs => by simp [spliceL]
  | c :: cs, o + 1, vs => by simp [spliceL, spliceL_len cs o vs]

section
variable {P : Program} {n : Nat} {ops : Array Oper} {Q : Post} {e : Env} {w : World} {rest l : List Oper} {o : Oper} {d : Nat} {T : Tab}
theorem cells_new (w : World) (cs : List Value) (t : Nat) : Cells (w.alloc (.cells cs.toArray t)) w.heap.size cs t := heap_alloc_new w _
/-- a new variable -/
theorem alloc {t : Nat} {z : Value} (hz : zeroT P t = some z) (ho : o.op = .alloc t) (hg : o.guard = none) (hd : o.dst = some d)
    (K : ∀ k w', w.heap.size = k → w'.heap.size = k + 1 → Gr w w' → Cells w' k (cellsL z) t → VL P n ops Q rest (e.set d (.pointer (some ⟨k, 0, none⟩))) w') : VL P n ops Q (o :: rest) e w := by
  have hr : (execOp (act n e).eval o).run P w = .ok (.value (.pointer (some ⟨w.heap.size, 0, none⟩))) (w.alloc (.cells (cellsL z).toArray t)) := by
    simp only [execOp, ho]
    simp [Instr.alloc, run_zero hz, newVar, newRow, newObj, Sem.run, cellsL_eq]
  exact step hg hd hr (K _ _ rfl (by simp) (gr_alloc _ _) (cells_new _ _ _))
/-- a new variable that holds a value -/
theorem box {t : Nat} {x : Operand} {v : Value} (ho : o.op = .box t x) (hx0 : force (evn n e x) = some v) (hg : o.guard = none) (hd : o.dst = some d)
    (K : ∀ k w', w.heap.size = k → w'.heap.size = k + 1 → Gr w w' → Cells w' k (cellsL v) t → VL P n ops Q rest (e.set d (.pointer (some ⟨k, 0, none⟩))) w') : VL P n ops Q (o :: rest) e w := by
  have hx : evn n e x = some v := by rw [force_eq] at hx0; exact hx0
  have hr : (execOp (act n e).eval o).run P w = .ok (.value (.pointer (some ⟨w.heap.size, 0, none⟩))) (w.alloc (.cells (cellsL v).toArray t)) := by
    simp only [execOp, ho, evn_eval hx]
    simp [Instr.box, newVar, newRow, newObj, Sem.run, cellsL_eq]
  exact step hg hd hr (K _ _ rfl (by simp) (gr_alloc _ _) (cells_new _ _ _))
theorem run_loadAgg {b o t sz : Nat} {cs : List Value} (ha : aggT P t = true) (hs : sizeT P t = some sz) (hl : cs.length = sz) (F : At w b o cs) : (loadVar t ⟨b, o, none⟩).run P w = .ok (.agg cs.toArray) w := by
  have hu : (P.underlying t).isSome = true := by
    unfold aggT at ha
    split at ha
    · rename_i h; simp [h]
    · rename_i h; simp [h]
    · cases ha
  have h1 := run_isAgg (w := w) hu
  rw [ha] at h1
  subst hl
  have h2 := run_loadCells_list (P := P) w ⟨b, o, none⟩ cs (fun j u hu => by rw [Addr.add_lit]; exact F j u hu)
  simp [loadVar, h1, run_sizeOf' hs, h2]
theorem At.part {b o : Nat} {cs : List Value} (F : At w b o cs) (off k : Nat) : At w b (o + off) ((cs.drop off).take k) := by
  intro j u hu
  rw [List.getElem?_take] at hu
  split at hu
  · rw [List.getElem?_drop] at hu
    have := F (off + j) u hu
    rwa [← Nat.add_assoc] at this
  · cases hu
theorem run_loadC (hT : tabB P T = true) {b off o0 t : Nat} {cs : List Value} {v : Value} (F : At w b o0 cs) (h : loadC T t cs off = some v) : (loadVar t ⟨b, o0 + off, none⟩).run P w = .ok v w := by
  unfold loadC at h
  split at h
  · rename_i sz fs hl
    obtain ⟨fields, hu, _, hs⟩ := look_struct hT hl
    cases hb : Nat.ble (off + sz) cs.length with
    | false => rw [hb] at h; cases h
    | true =>
      rw [hb] at h
      have hle : off + sz ≤ cs.length := Nat.le_of_ble_eq_true hb
      simp only [cond_true, Option.some.injEq] at h
      subst h
      exact run_loadAgg (by simp [aggT, hu]) hs (by simp; omega) (F.part off sz)
  · rename_i l _ s _ hl
    obtain ⟨hu, _, _, _, hs⟩ := look_arr hT hl
    cases hb : Nat.ble (off + l * s) cs.length with
    | false => rw [hb] at h; cases h
    | true =>
      rw [hb] at h
      have hle : off + l * s ≤ cs.length := Nat.le_of_ble_eq_true hb
      simp only [cond_true, Option.some.injEq] at h
      subst h
      exact run_loadAgg (by simp [aggT, hu]) hs (by simp; omega) (F.part off (l * s))
  · rename_i d h1 h2 hl
    have key : ∃ u, P.underlying t = some u ∧ aggT P t = false := by
      cases d with
      | int k => exact ⟨_, look_int hT hl, by simp [aggT, look_int hT hl]⟩
      | str => exact ⟨_, look_str hT hl, by simp [aggT, look_str hT hl]⟩
      | bool => exact ⟨_, look_bool hT hl, by simp [aggT, look_bool hT hl]⟩
      | ptr e => exact ⟨_, look_ptr hT hl, by simp [aggT, look_ptr hT hl]⟩
      | sl e => exact ⟨_, look_sl hT hl, by simp [aggT, look_sl hT hl]⟩
      | struct sz fs => exact absurd rfl (h1 sz fs)
      | arr l e s a => exact absurd rfl (h2 l e s a)
      | map k e => exact ⟨_, look_map hT hl, by simp [aggT, look_map hT hl]⟩
      | fn => obtain ⟨a, b, c, hf⟩ := look_fn hT hl; exact ⟨_, hf, by simp [aggT, hf]⟩
    obtain ⟨u, hu, ha⟩ := key
    have h3 := run_isAgg (w := w) (t := t) (by rw [hu]; rfl)
    rw [ha] at h3
    simp [loadVar, h3, F off v h]
  · cases h
/-- a load out of cells that are known -/
theorem loadA (hT : tabB P T = true) {b o0 off t : Nat} {cs : List Value} {x : Operand} {v : Value} (F : At w b o0 cs) (ho : o.op = .load t x) (hx : evn n e x = some (.pointer (some ⟨b, o0 + off, none⟩))) (hv : force (loadC T t cs off) = some v) (hg : o.guard = none) (hd : o.dst = some d)
    (K : VL P n ops Q rest (e.set d v) w) : VL P n ops Q (o :: rest) e w := by
  refine step hg hd ?_ K
  simp only [execOp, ho, evn_eval hx]
  refine run_pure_value ?_
  rw [force_eq] at hv
  simp [Instr.loadAt, Instr.sureAddr, run_loadC hT F hv]
theorem loadO (hT : tabB P T = true) {k off t ty : Nat} {cs : List Value} {x : Operand} {v : Value} (F : Cells w k cs ty) (ho : o.op = .load t x) (hx : evn n e x = some (.pointer (some ⟨k, off, none⟩))) (hv : force (loadC T t cs off) = some v) (hg : o.guard = none) (hd : o.dst = some d)
    (K : VL P n ops Q rest (e.set d v) w) : VL P n ops Q (o :: rest) e w := by
  refine loadA hT (o0 := 0) (off := off) F.at_ ho (by rw [Nat.zero_add]; exact hx) hv hg hd K
/-- a store into a row -/
theorem storeO {k off t ty : Nat} {cs cs' : List Value} {x y : Operand} {v : Value} (F : Cells w k cs ty) (ho : o.op = .store t x y) (hx : evn n e x = some (.pointer (some ⟨k, off, none⟩))) (hy0 : force (evn n e y) = some v)
    (h10 : (cellsL v).all Value.oneCell' = true) (hs : sizeT P t = some (cellsL v).length) (hle : Nat.ble (off + (cellsL v).length) cs.length = true) (hc : spliceL cs off (cellsL v) = cs') (hg : o.guard = none) (hd : o.dst = none)
    (K : ∀ w', Fr [k] w w' → w'.heap.size = w.heap.size → Cells w' k cs' ty → VL P n ops Q rest e w') : VL P n ops Q (o :: rest) e w := by
  have hle' : off + (cellsL v).length ≤ cs.length := Nat.le_of_ble_eq_true hle
  have hy : evn n e y = some v := by rw [force_eq] at hy0; exact hy0
  have h1 : ∀ u ∈ cellsL v, u.oneCell' = true := by simpa using h10
  subst hc
  have hst := run_storeCells_at P k off ty (cellsL v) 0 cs.toArray w F (by simpa using hle') h1
  simp only [Nat.add_zero] at hst
  refine stepS hg hd ?_ (K (w.setRow k (cs.take off ++ cellsL v ++ cs.drop (off + (cellsL v).length)).toArray) (fr_setRow _ _ _) (by simp) ?_)
  · simp only [execOp, ho, evn_eval hx, evn_eval hy]
    simp only [Instr.storeAt, Instr.sureAddr, storeVar, cellsL_eq]
    simp [run_sizeOf' hs, hst]
  · rw [spliceL_eq _ _ _ hle']
    exact setRow_heap w k cs.toArray _ ty (0, 0) F
end
/-! ### Slices -/
def addrCut (a : Option Addr) (l m s : Nat) : Option Addr := if m = l then a else a.map (·.add (l * s))
section
variable {P : Program} {n : Nat} {ops : Array Oper} {Q : Post} {e : Env} {w : World} {rest l : List Oper} {o : Oper} {d : Nat} {T : Tab} {α : Type} {C : Cod α}
/-- the address of an element -/
theorem elem (hT : tabB P T = true) {t e' c : Nat} {D : Nat → Prop} {a : Option Addr} {xs : List α} {x ix : Operand} {k : IntKind} {i : Int} (F : Sl C w D a c xs) (ho : o.op = .indexAddr t x ix) (ht : look T t = some (.sl e')) (hs : sizeT P e' = some C.sz)
    (hx : evn n e x = some (.slice a xs.length c)) (hi' : evn n e ix = some (.int k i)) (hg : o.guard = none) (hd : o.dst = some d) (h0 : 0 ≤ i) (h1 : i < xs.length)
    (K : ∀ b oo cs (h : i.toNat < xs.length), D b → C.R w D (xs[i.toNat]) cs → At w b oo cs → VL P n ops Q rest (e.set d (.pointer (some ⟨b, oo, none⟩))) w) : VL P n ops Q (o :: rest) e w := by
  have hlt : i.toNat < xs.length := by omega
  obtain ⟨b, oo, rfl, hb1, hel⟩ := F.els (by omega)
  obtain ⟨cs, h2, h3⟩ := hel i.toNat hlt
  refine step hg hd ?_ (K b (oo + i.toNat * C.sz) cs hlt hb1 h2 h3)
  simp only [execOp, ho, evn_eval hx, evn_eval hi']
  refine run_pure_value ?_
  simp [Instr.indexAt, asIntOf, run_underlying (look_sl hT ht), h0, h1, run_sizeOf' hs, Addr.add_lit]
theorem Sl.cut {c l h m : Nat} {D : Nat → Prop} {a : Option Addr} {xs : List α} (F : Sl C w D a c xs) (h1 : l ≤ h) (h2 : h ≤ xs.length) (h3 : h ≤ m) (h4 : m ≤ c) : Sl C w D (addrCut a l m C.sz) (m - l) ((xs.drop l).take (h - l)) := by
  have hlen : ((xs.drop l).take (h - l)).length = h - l := by simp; omega
  refine ⟨by rw [hlen]; omega, by have := F.max; omega, fun hn => ?_⟩
  rw [hlen] at hn
  obtain ⟨b, o, rfl, hb1, hel⟩ := F.els (by omega)
  refine ⟨b, o + l * C.sz, ?_, hb1, fun i hi => ?_⟩
  · unfold addrCut; rw [if_neg (by omega)]; simp [Addr.add_lit]
  · rw [hlen] at hi
    obtain ⟨cs, h5, h6⟩ := hel (l + i) (by omega)
    refine ⟨cs, by simpa using h5, ?_⟩
    rwa [Nat.add_mul, ← Nat.add_assoc] at h6
def opnE (n : Nat) (e : Env) : Option Operand → Option (Option Value)
  | none => some none
  | some x => (match evn n e x with
    | some v => some (some v)
    | none => none)
theorem opn_eval {x : Option Operand} {v : Option Value} (h : opnE n e x = some v) : x.map (act n e).eval = v := by
  cases x with
  | none => simpa [opnE] using h
  | some x =>
    simp only [opnE] at h
    split at h
    · rename_i u hu; cases h; simp [evn_eval hu]
    · cases h
def bnd (d : Int) : Option Value → Option Int
  | none => some d
  | some (.int _ i) => some i
  | _ => none
theorem run_bnd {d : Nat} {v : Option Value} {i : Int} (h : bnd d v = some i) (y : Nat) (code : BoundsCode) (h0 : 0 ≤ i) (h1 : i ≤ y) : (match v with | some v => Instr.sliceBound v y code | none => pure d : Sem Nat).run P w = .ok i.toNat w := by
  cases v with
  | none => simp only [bnd, Option.some.injEq] at h; subst h; simp
  | some v =>
    cases v <;> simp only [bnd, reduceCtorEq] at h
    simp only [Option.some.injEq] at h
    subst h
    exact run_sliceBound _ _ _ _ _ h0 h1
theorem cut_run (hT : tabB P T = true) {t e' c : Nat} {D : Nat → Prop} {a : Option Addr} {xs : List α} {x : Operand} {ol oh : Option Operand} {vl vh : Option Value} {i j : Int} (F : Sl C w D a c xs) (ho : o.op = .slice t x ol oh none) (ht : look T t = some (.sl e')) (hs : sizeT P e' = some C.sz)
    (hx : evn n e x = some (.slice a xs.length c)) (hl : opnE n e ol = some vl) (hh : opnE n e oh = some vh) (hi' : bnd 0 vl = some i) (hj : bnd xs.length vh = some j) (h0 : 0 ≤ i) (h1 : i ≤ j) (h2 : j ≤ xs.length) :
    (execOp (act n e).eval o).run P w = .ok (.value (.slice (addrCut a i.toNat c C.sz) ((xs.drop i.toNat).take (j - i).toNat).length (c - i.toNat))) w := by
  have hc := F.cap
  simp only [execOp, ho, evn_eval hx, opn_eval hl, opn_eval hh, Option.map_none]
  refine run_pure_value ?_
  have hb : (Instr.sliceBounds true xs.length c vl vh none).run P w = .ok (i.toNat, j.toNat, c) w := by
    have e2 := run_bnd (P := P) (w := w) (d := 0) (by simpa using hi') j.toNat .sliceB h0 (by omega)
    have e1 := run_bnd (P := P) (w := w) hj c .sliceAcap (by omega) (by omega)
    unfold Instr.sliceBounds
    cases vh with
    | none =>
      simp only [bnd, Option.some.injEq] at hj
      have hjn : j.toNat = xs.length := by omega
      rw [hjn] at e2
      cases vl with
      | none => simp only [Sem.run_pure, Result.ok.injEq, and_true] at e2; simp [hjn, ← e2]
      | some vl => simp at e2; simp [hjn, e2]
    | some vh =>
      simp only at e1
      cases vl with
      | none => simp only [Sem.run_pure, Result.ok.injEq, and_true] at e2; simp [e1, ← e2]
      | some vl => simp at e2; simp [e1, e2]
  have hlen : ((xs.drop i.toNat).take (j - i).toNat).length = j.toNat - i.toNat := by simp; omega
  simp [Instr.sliceAt, Instr.slice, run_underlying (look_sl hT ht), hb, run_sizeOf' hs, addrCut, hlen]
/-- x[lo:hi] of a slice -/
theorem cut (hT : tabB P T = true) {t e' c : Nat} {D : Nat → Prop} {a : Option Addr} {xs : List α} {x : Operand} {ol oh : Option Operand} {vl vh : Option Value} {i j : Int} (F : Sl C w D a c xs) (ho : o.op = .slice t x ol oh none) (ht : look T t = some (.sl e')) (hs : sizeT P e' = some C.sz)
    (hx : evn n e x = some (.slice a xs.length c)) (hl : opnE n e ol = some vl) (hh : opnE n e oh = some vh) (hi' : bnd 0 vl = some i) (hj : bnd xs.length vh = some j) (hg : o.guard = none) (hd : o.dst = some d) (h0 : 0 ≤ i) (h1 : i ≤ j) (h2 : j ≤ xs.length)
    (K : ∀ a' c', Sl C w D a' c' ((xs.drop i.toNat).take (j - i).toNat) → c' = c - i.toNat → VL P n ops Q rest (e.set d (.slice a' ((xs.drop i.toNat).take (j - i).toNat).length c')) w) : VL P n ops Q (o :: rest) e w := by
  have hc := F.cap
  have F' := F.cut (l := i.toNat) (h := j.toNat) (m := c) (by omega) (by omega) (by omega) (Nat.le_refl _)
  rw [show j.toNat - i.toNat = (j - i).toNat by omega] at F'
  exact step hg hd (cut_run hT F ho ht hs hx hl hh hi' hj h0 h1 h2) (K _ _ F' rfl)
end
/-! ### Numbers within bounds; strings -/
theorem wrap_in {x : Int} (h0 : -9223372036854775808 ≤ x) (h1 : x ≤ 9223372036854775807) : IntKind.i64.wrap x = x := by
  simp [IntKind.wrap, IntKind.bits, IntKind.signed]; omega
section
variable {P : Program} {n : Nat} {ops : Array Oper} {Q : Post} {e : Env} {w : World} {rest l : List Oper} {o : Oper} {d : Nat} {T : Tab}
theorem addN {t t' : Nat} {x y : Operand} {a b : Int} (ho : o.op = .binOp .add t x y t') (hx : evn n e x = some (.int .i64 a)) (hy : evn n e y = some (.int .i64 b)) (hg : o.guard = none) (hd : o.dst = some d) (h0 : -9223372036854775808 ≤ a + b) (h1 : a + b ≤ 9223372036854775807)
    (K : VL P n ops Q rest (e.set d (.int .i64 (a + b))) w) : VL P n ops Q (o :: rest) e w := by
  refine step hg hd ?_ K
  simp only [execOp, ho, evn_eval hx, evn_eval hy]
  refine run_pure_value (bin1_run ?_)
  simp [bin1, bin2, wrap_in h0 h1]
theorem subN {t t' : Nat} {x y : Operand} {a b : Int} (ho : o.op = .binOp .sub t x y t') (hx : evn n e x = some (.int .i64 a)) (hy : evn n e y = some (.int .i64 b)) (hg : o.guard = none) (hd : o.dst = some d) (h0 : -9223372036854775808 ≤ a - b) (h1 : a - b ≤ 9223372036854775807)
    (K : VL P n ops Q rest (e.set d (.int .i64 (a - b))) w) : VL P n ops Q (o :: rest) e w := by
  refine step hg hd ?_ K
  simp only [execOp, ho, evn_eval hx, evn_eval hy]
  refine run_pure_value (bin1_run ?_)
  simp [bin1, bin2, wrap_in h0 h1]
/-- a text of bytes -/
def S (bs : List UInt8) : ByteArray := ⟨bs.toArray⟩
@[simp] theorem S_data (bs : List UInt8) : (S bs).data.toList = bs := rfl
@[simp] theorem S_size (bs : List UInt8) : (S bs).size = bs.length := by simp [S, ByteArray.size]
theorem S_inj {a b : List UInt8} : S a = S b ↔ a = b := ⟨fun h => by have := congrArg (fun s => s.data.toList) h; simpa using this, fun h => by rw [h]⟩
theorem length_data (s : ByteArray) : s.data.toList.length = s.size := by rw [Array.length_toList]; rfl
end
/-! ### Rows of one's own; append -/
/-- The cells of a list's elements, one behind the other. -/
def Reps {α : Type} (C : Cod α) (w : World) (D : Nat → Prop) : List α → List Value → Prop
  | [], cs => cs = []
  | x :: xs, cs => ∃ c1 c2, cs = c1 ++ c2 ∧ C.R w D x c1 ∧ Reps C w D xs c2
section
variable {α : Type} {C : Cod α} {w w' : World} {D D' : Nat → Prop}
theorem Reps.len : ∀ {xs : List α} {cs : List Value}, Reps C w D xs cs → cs.length = xs.length * C.sz
  | [], cs, h => by simp [Reps] at h; simp [h]
  | x :: xs, cs, h => by
    obtain ⟨c1, c2, rfl, h1, h2⟩ := h
    rw [List.length_append, C.len h1, Reps.len h2, List.length_cons, Nat.add_mul]; omega
theorem Reps.one : ∀ {xs : List α} {cs : List Value}, Reps C w D xs cs → ∀ u ∈ cs, u.oneCell' = true
  | [], cs, h => by simp [Reps] at h; simp [h]
  | x :: xs, cs, h => by
    obtain ⟨c1, c2, rfl, h1, h2⟩ := h
    intro u hu
    rcases List.mem_append.1 hu with hu | hu
    · exact C.one h1 u hu
    · exact Reps.one h2 u hu
theorem Reps.mv {S : List Nat} (f : Fr S w w') (hs : ∀ i, i ∈ S → ¬ D i) : ∀ {xs : List α} {cs : List Value}, Reps C w D xs cs → Reps C w' D xs cs
  | [], cs, h => h
  | x :: xs, cs, h => by
    obtain ⟨c1, c2, rfl, h1, h2⟩ := h
    exact ⟨c1, c2, rfl, C.mv h1 f hs, Reps.mv f hs h2⟩
theorem Reps.mono (ha : ∀ k, D k → D' k) : ∀ {xs : List α} {cs : List Value}, Reps C w D xs cs → Reps C w D' xs cs
  | [], cs, h => h
  | x :: xs, cs, h => by
    obtain ⟨c1, c2, rfl, h1, h2⟩ := h
    exact ⟨c1, c2, rfl, C.mono h1 ha, Reps.mono ha h2⟩
theorem Reps.append : ∀ {xs ys : List α} {cs ds : List Value}, Reps C w D xs cs → Reps C w D ys ds → Reps C w D (xs ++ ys) (cs ++ ds)
  | [], ys, cs, ds, h, h' => by simp [Reps] at h; simpa [h] using h'
  | x :: xs, ys, cs, ds, h, h' => by
    obtain ⟨c1, c2, rfl, h1, h2⟩ := h
    exact ⟨c1, c2 ++ ds, by simp, h1, Reps.append h2 h'⟩
theorem Reps.at_ : ∀ {xs : List α} {cs : List Value}, Reps C w D xs cs → ∀ i (h : i < xs.length), ∃ c1 c2 c3, cs = c1 ++ (c2 ++ c3) ∧ c1.length = i * C.sz ∧ C.R w D xs[i] c2
  | [], cs, h, i, hi => by simp at hi
  | x :: xs, cs, h, i, hi => by
    obtain ⟨c1, c2, rfl, h1, h2⟩ := h
    cases i with
    | zero => exact ⟨[], c1, c2, rfl, by simp, h1⟩
    | succ i =>
      obtain ⟨d1, d2, d3, rfl, h3, h4⟩ := Reps.at_ h2 i (by simpa using hi)
      exact ⟨c1 ++ d1, d2, d3, by simp, by rw [List.length_append, C.len h1, h3, Nat.add_mul]; omega, by simpa using h4⟩
theorem Reps.of {b o : Nat} : ∀ {xs : List α}, (∀ i (h : i < xs.length), ∃ cs, C.R w D xs[i] cs ∧ At w b (o + i * C.sz) cs) → ∃ cs, Reps C w D xs cs ∧ At w b o cs
  | [], h => ⟨[], rfl, fun j u hu => by simp at hu⟩
  | x :: xs, h => by
    obtain ⟨c1, h1, h2⟩ := h 0 (by simp)
    obtain ⟨c2, h3, h4⟩ := Reps.of (b := b) (o := o + C.sz) (xs := xs) (fun i hi => by
      obtain ⟨cs, h5, h6⟩ := h (i + 1) (by simpa using hi)
      refine ⟨cs, by simpa using h5, ?_⟩
      rwa [Nat.add_mul, Nat.one_mul, Nat.add_comm (i * C.sz), ← Nat.add_assoc] at h6)
    refine ⟨c1 ++ c2, ⟨c1, c2, rfl, by simpa using h1, h3⟩, fun j u hu => ?_⟩
    have hl := C.len h1
    rcases Nat.lt_or_ge j c1.length with hj | hj
    · rw [List.getElem?_append_left hj] at hu
      have := h2 j u hu
      simpa using this
    · rw [List.getElem?_append_right hj] at hu
      have := h4 (j - c1.length) u hu
      rwa [show o + C.sz + (j - c1.length) = o + j by omega] at this
theorem Reps.sl {b o c : Nat} {xs : List α} {cs : List Value} (h : Reps C w D xs cs) (ha : At w b o cs) (h1 : D b) (hc : xs.length ≤ c) (hm : c ≤ maxLen) : Sl C w D (some ⟨b, o, none⟩) c xs :=
  ⟨hc, hm, fun _ => ⟨b, o, rfl, h1, fun i hi => by
    obtain ⟨d1, d2, d3, rfl, h3, h4⟩ := h.at_ i hi
    refine ⟨d2, h4, fun j u hu => ?_⟩
    have := ha (i * C.sz + j) u (by
      rw [← h3, List.getElem?_append_right (by omega), Nat.add_sub_cancel_left, List.getElem?_append_left]
      · exact hu
      · exact (List.getElem?_eq_some_iff.1 hu).1)
    rwa [← Nat.add_assoc] at this⟩⟩
end
/-- what is appended -/
structure From (P : Program) {α : Type} (C : Cod α) (tx : Nat) (w : World) (D : Nat → Prop) (v : Value) (ys : List α) : Prop where
  ex : ∃ news, Src P C.sz tx v ys.length news w ∧ Reps C w D ys news
/-- The slice (a, xs.length, c) has its row, block g, for itself; what its elements lead to lies from lo below hi. -/
structure Own {α : Type} (C : Cod α) (t : Nat) (w : World) (D : Nat → Prop) (g : Nat) (a : Option Addr) (c : Nat) (xs : List α) : Prop where
  cap : xs.length ≤ c
  max : c ≤ maxLen
  row : (a = none ∧ c = 0) ∨ (a = some ⟨g, 0, none⟩ ∧ ∃ cur cs : List Value, Cells w g cur t ∧ cur.length = c * C.sz ∧ cur.take (xs.length * C.sz) = cs ∧ Reps C w D xs cs)
section
variable {P : Program} {α : Type} {C : Cod α} {w w' : World} {D D' : Nat → Prop} {g t c : Nat} {a : Option Addr} {xs ys : List α}
theorem Sl.from {tx e' : Nat} (F : Sl C w D a c xs) (ht : P.underlying tx = some (.slice e')) : From P C tx w D (.slice a xs.length c) xs := by
  rcases Nat.eq_zero_or_pos xs.length with h0 | h0
  · have : xs = [] := List.length_eq_zero_iff.1 h0
    subst this
    cases a with
    | none => exact ⟨[], Src.ofNil w ht c, rfl⟩
    | some ad => exact ⟨[], Src.ofSlice w ht ad 0 c [] (by simp) (by simp) (by simp), rfl⟩
  · obtain ⟨b, o, rfl, _, hel⟩ := F.els h0
    obtain ⟨cs, h1, h2⟩ := Reps.of hel
    exact ⟨cs, Src.ofSlice w ht _ _ _ cs h1.len (fun j u hu => by rw [Addr.add_lit]; exact h2 j u hu) h1.one, h1⟩
theorem From.mono {tx : Nat} {v : Value} (h : From P C tx w D v ys) (h1 : ∀ k, D k → D' k) : From P C tx w D' v ys :=
  let ⟨news, a, b⟩ := h.ex; ⟨news, a, b.mono h1⟩
theorem Own.nil (C : Cod α) (t : Nat) (w : World) (D : Nat → Prop) (g : Nat) : Own C t w D g none 0 [] := ⟨Nat.le_refl _, by simp [maxLen], .inl ⟨rfl, rfl⟩⟩
theorem Own.mv {S : List Nat} (h : Own C t w D g a c xs) (f : Fr S w w') (hg : ∀ i, i ∈ S → i ≠ g) (hs : ∀ i, i ∈ S → ¬ D i) : Own C t w' D g a c xs :=
  ⟨h.cap, h.max, h.row.imp id fun ⟨h1, cur, cs, h2, h3, h4, h5⟩ => ⟨h1, cur, cs, h2.mv f hg, h3, h4, h5.mv f hs⟩⟩
theorem Own.gr (h : Own C t w D g a c xs) (f : Gr w w') : Own C t w' D g a c xs := h.mv f (by simp) (by simp)
theorem Own.mono (h : Own C t w D g a c xs) (h1 : ∀ k, D k → D' k) : Own C t w D' g a c xs :=
  ⟨h.cap, h.max, h.row.imp id fun ⟨h3, cur, cs, h4, h5, h6, h7⟩ => ⟨h3, cur, cs, h4, h5, h6, h7.mono h1⟩⟩
theorem Own.sl (h : Own C t w D g a c xs) (h1 : ∀ k, D k → D' k) (h3 : D' g) : Sl C w D' a c xs := by
  rcases h.row with ⟨rfl, rfl⟩ | ⟨rfl, cur, cs, h5, h6, h7, h8⟩
  · have : xs = [] := List.length_eq_zero_iff.1 (by have := h.cap; omega)
    subst this
    exact Sl.nil C w D' none 0 h.max
  · refine (h8.mono h1).sl (fun j u hu => ?_) h3 h.cap h.max
    subst h7
    rw [List.getElem?_take] at hu
    split at hu
    · simpa using h5.at_ j u hu
    · cases hu
theorem Own.lt (h : Own C t w D g a c xs) (hn : a ≠ none) : g < w.heap.size := by
  rcases h.row with ⟨rfl, _⟩ | ⟨_, cur, cs, h5, _⟩
  · exact absurd rfl hn
  · exact h5.lt
variable {n : Nat} {ops : Array Oper} {Q : Post} {e : Env} {rest l : List Oper} {o : Oper} {d : Nat} {T : Tab}
/-- what is asked of an element's type -/
structure ElemT (P : Program) (t tx sz bytes : Nat) (z : Value) (e' : Nat) : Prop where
  sl : P.underlying t = some (.slice e')
  inf : ∃ i, P.info? e' = some i ∧ i.zero = some z ∧ i.size = sz ∧ i.bytes = bytes
  zs : z.cells.size = sz
theorem zeroCells_size (z : Array Value) (n : Nat) : (Builtin.zeroCells z n).size = n * z.size := by simp [Builtin.zeroCells]
/-- append without room: a new row -/
theorem appendG {t tx bytes e' : Nat} {z : Value} {s x : Operand} {v : Value} (F1 : Sl C w D a c xs) (F2 : From P C tx w D v ys) (hE : ElemT P t tx C.sz bytes z e')
    (ho : o.op = .call { callee := .builtin .append, args := #[s, x], argTypes := #[t, tx] }) (hs : evn n e s = some (.slice a xs.length c)) (hx : evn n e x = some v) (hg : o.guard = none) (hd : o.dst = some d)
    (hc : c < xs.length + ys.length) (hb : (xs.length + ys.length) * bytes ≤ 140737488355328) (hm : xs.length + ys.length ≤ maxLen)
    (K : ∀ a' c' w', Gr w w' → w'.heap.size = w.heap.size + 1 → Own C e' w' D w.heap.size a' c' (xs ++ ys) → VL P n ops Q rest (e.set d (.slice a' (xs ++ ys).length c')) w') : VL P n ops Q (o :: rest) e w := by
  obtain ⟨i, hi1, hi2, hi3, hi4⟩ := hE.inf
  obtain ⟨olds, hS1, hR1⟩ := (F1.from hE.sl).ex
  obtain ⟨news, hS2, hR2⟩ := F2.ex
  have hm' : xs.length + ys.length ≤ 9223372036854775807 := by simpa [maxLen] using hm
  have hn2 := nextslicecap_le (need := xs.length + ys.length) (old := c) hc
  have hfit : Builtin.nextslicecap (xs.length + ys.length) c * i.bytes ≤ 281474976710656 := by
    rw [hi4]
    calc _ ≤ 2 * (xs.length + ys.length) * bytes := Nat.mul_le_mul_right _ hn2
      _ ≤ 281474976710656 := by rw [Nat.mul_assoc]; omega
  rw [← hi3] at hS1 hS2
  have hrun := run_append_grow_src (P := P) w t tx o.type e' i z hE.sl hi1 hi2 a xs.length c olds hS1.cellsD v ys.length news hS2 hc (by omega) hfit
  generalize hcap : grownCap w (xs.length + ys.length) c e' = cap at hrun
  have hcap1 : xs.length + ys.length ≤ cap := by rw [← hcap]; exact grownCap_ge _ _ _ _
  have hcap2 : cap ≤ maxLen := by rw [← hcap]; exact grownCap_le_maxLen _ _ _ _ hm
  have hlen : (xs ++ ys).length = xs.length + ys.length := List.length_append
  let row : Array Value := (olds ++ news).toArray ++ Builtin.zeroCells z.cells (cap - (xs.length + ys.length))
  have hgr : Gr w (w.drew.alloc (.cells row e')) := Gr.trans (gr_drew w) (gr_alloc _ _)
  have hR := hR1.append hR2
  have hRl := hR.len
  refine step hg hd (v := .slice (some ⟨w.heap.size, 0, none⟩) (xs ++ ys).length cap) ?_ (K _ cap (w.drew.alloc (.cells row e')) hgr (by simp) ⟨by omega, hcap2, .inr ⟨rfl, row.toList, olds ++ news, ?_, ?_, ?_, hR.mv hgr (by simp)⟩⟩)
  · simp only [execOp, ho, resolve, invoke, builtin, List.map_toArray, List.map_cons, List.map_nil, evn_eval hs, evn_eval hx, hlen]
    simp [hrun, row]
  · have := heap_alloc_new w.drew (.cells row e')
    simpa [Cells] using this
  · simp only [row, Array.toList_append, List.length_append, Array.length_toList, zeroCells_size, hE.zs]
    rw [List.length_append] at hRl
    have : (cap - (xs.length + ys.length)) * C.sz + (xs.length + ys.length) * C.sz = cap * C.sz := by rw [← Nat.add_mul]; congr 1; omega
    rw [hlen] at hRl
    omega
  · simp only [row, Array.toList_append]
    rw [← hRl, List.take_append_of_le_length (Nat.le_refl _), List.take_length]
end
theorem spliceL_set : ∀ (cur : List Value) (o : Nat) (v : Value) (r : List Value), o < cur.length → spliceL (cur.set o v) (o + 1) r = spliceL cur o (v :: r)
  | [], o, v, r, h => by simp at h
  | c :: cur, 0, v, r, h => by simp [spliceL]
  | c :: cur, o + 1, v, r, h => by
    have := spliceL_set cur o v r (by simpa using h)
    simp only [List.set_cons_succ, spliceL, this]
theorem spliceL_nil : ∀ (cur : List Value) (o : Nat), spliceL cur o [] = cur
  | [], 0 => rfl
  | [], o + 1 => rfl
  | c :: cur, 0 => rfl
  | c :: cur, o + 1 => by simp [spliceL, spliceL_nil cur o]
theorem setCells_row {g t : Nat} : ∀ (vs : List Value) (o : Nat) (cur : List Value) (w : World), Cells w g cur t → o + vs.length ≤ cur.length → w.setCells g o vs = w.setRow g (spliceL cur o vs).toArray
  | [], o, cur, w, h, hl => by
    rw [spliceL_nil]
    exact (setRow_self w g cur.toArray t (0, 0) h).symm
  | v :: r, o, cur, w, h, hl => by
    simp only [List.length_cons] at hl
    have h1 : w.setCell ⟨g, o, none⟩ v = w.setRow g (cur.set o v).toArray := by
      rw [setCell_eq_setRow w g o cur.toArray t (0, 0) v h]; simp
    have h2 : Cells (w.setRow g (cur.set o v).toArray) g (cur.set o v) t := setRow_heap w g cur.toArray _ t (0, 0) h
    have ih := setCells_row r (o + 1) (cur.set o v) _ h2 (by simp; omega)
    show (w.setCell ⟨g, o, none⟩ v).setCells g (o + 1) r = _
    rw [h1, ih, setRow_setRow, spliceL_set cur o v r (by omega)]
section
variable {P : Program} {α : Type} {C : Cod α} {w w' : World} {D : Nat → Prop} {g t c : Nat} {a : Option Addr} {xs ys : List α} {n : Nat} {ops : Array Oper} {Q : Post} {e : Env} {rest l : List Oper} {o : Oper} {d : Nat} {T : Tab}
/-- append to a row of one's own -/
theorem appendO {tx bytes e' : Nat} {z : Value} {s x : Operand} {v : Value} (F1 : Own C e' w D g a c xs) (F2 : From P C tx w D v ys) (hE : ElemT P t tx C.sz bytes z e')
    (ho : o.op = .call { callee := .builtin .append, args := #[s, x], argTypes := #[t, tx] }) (hs : evn n e s = some (.slice a xs.length c)) (hx : evn n e x = some v) (hg : o.guard = none) (hd : o.dst = some d)
    (hb : (xs.length + ys.length) * bytes ≤ 140737488355328) (hm : xs.length + ys.length ≤ maxLen) (hgn : ¬ D g)
    (K : ∀ g' a' c' w', Fr [g] w w' → w'.heap.size ≤ w.heap.size + 1 → (g' = g ∨ g' = w.heap.size) → (xs ++ ys ≠ [] → g' < w'.heap.size) → Own C e' w' D g' a' c' (xs ++ ys) → VL P n ops Q rest (e.set d (.slice a' (xs ++ ys).length c')) w') : VL P n ops Q (o :: rest) e w := by
  have hlen : (xs ++ ys).length = xs.length + ys.length := List.length_append
  rcases Nat.lt_or_ge c (xs.length + ys.length) with hc | hc
  · rcases F1.row with ⟨ha, hc0⟩ | ⟨ha, cur, cs, h5, h6, h7, h8⟩
    · subst ha; subst hc0
      have hxs : xs = [] := List.length_eq_zero_iff.1 (by have := F1.cap; omega)
      subst hxs
      refine appendG (Sl.nil C w D none 0 F1.max) F2 hE ho hs hx hg hd hc hb hm fun a' c' w' G hs' F3 => K w.heap.size a' c' w' (Gr.trans G (Fr.refl [] _) |>.mono (by simp)) (by omega) (.inr rfl) (fun _ => by omega) F3
    · -- the row that grew, its elements as they were
      obtain ⟨i, hi1, hi2, hi3, hi4⟩ := hE.inf
      subst h7
      have hA : At w g 0 (cur.take (xs.length * C.sz)) := fun j u hu => by
        rw [List.getElem?_take] at hu
        split at hu
        · simpa using h5.at_ j u hu
        · cases hu
      have hS1 : Src P C.sz t (.slice (some ⟨g, 0, none⟩) xs.length c) xs.length (cur.take (xs.length * C.sz)) w := Src.ofSlice w hE.sl _ _ _ _ h8.len (fun j u hu => by rw [Addr.add_lit]; exact hA j u hu) h8.one
      obtain ⟨news, hS2, hR2⟩ := F2.ex
      have hm' : xs.length + ys.length ≤ 9223372036854775807 := by simpa [maxLen] using hm
      have hn2 := nextslicecap_le (need := xs.length + ys.length) (old := c) hc
      have hfit : Builtin.nextslicecap (xs.length + ys.length) c * i.bytes ≤ 281474976710656 := by
        rw [hi4]
        calc _ ≤ 2 * (xs.length + ys.length) * bytes := Nat.mul_le_mul_right _ hn2
          _ ≤ 281474976710656 := by rw [Nat.mul_assoc]; omega
      subst ha
      rw [← hi3] at hS1 hS2
      have hrun := run_append_grow_src (P := P) w t tx o.type e' i z hE.sl hi1 hi2 (some ⟨g, 0, none⟩) xs.length c _ hS1.cellsD v ys.length news hS2 hc (by omega) hfit
      generalize hcap : grownCap w (xs.length + ys.length) c e' = cap at hrun
      have hcap1 : xs.length + ys.length ≤ cap := by rw [← hcap]; exact grownCap_ge _ _ _ _
      have hcap2 : cap ≤ maxLen := by rw [← hcap]; exact grownCap_le_maxLen _ _ _ _ hm
      rw [hi3] at hrun
      let row : Array Value := (cur.take (xs.length * C.sz) ++ news).toArray ++ Builtin.zeroCells z.cells (cap - (xs.length + ys.length))
      have hgr : Gr w (w.drew.alloc (.cells row e')) := Gr.trans (gr_drew w) (gr_alloc _ _)
      have hR := h8.append hR2
      have hRl := hR.len
      refine step hg hd (v := .slice (some ⟨w.heap.size, 0, none⟩) (xs ++ ys).length cap) ?_ (K w.heap.size _ cap (w.drew.alloc (.cells row e')) (hgr.mono (by simp)) (by simp) (.inr rfl) (fun _ => by simp) ⟨by omega, hcap2, .inr ⟨rfl, row.toList, cur.take (xs.length * C.sz) ++ news, ?_, ?_, ?_, hR.mv hgr (by simp)⟩⟩)
      · simp only [execOp, ho, resolve, invoke, builtin, List.map_toArray, List.map_cons, List.map_nil, evn_eval hs, evn_eval hx, hlen]
        simp [hrun, row]
      · have := heap_alloc_new w.drew (.cells row e')
        simpa [Cells] using this
      · simp only [row, Array.toList_append, List.length_append, Array.length_toList, zeroCells_size, hE.zs]
        rw [List.length_append] at hRl
        have : (cap - (xs.length + ys.length)) * C.sz + (xs.length + ys.length) * C.sz = cap * C.sz := by rw [← Nat.add_mul]; congr 1; omega
        rw [hlen] at hRl
        omega
      · simp only [row, Array.toList_append]
        rw [← hRl, List.take_append_of_le_length (Nat.le_refl _), List.take_length]
  · rcases F1.row with ⟨ha, hc0⟩ | ⟨ha, cur, cs, h5, h6, h7, h8⟩
    · subst ha; subst hc0
      have hxs : xs = [] := List.length_eq_zero_iff.1 (by omega)
      have hys : ys = [] := List.length_eq_zero_iff.1 (by omega)
      subst hxs; subst hys
      obtain ⟨i, hi1, hi2, hi3, hi4⟩ := hE.inf
      obtain ⟨news, hS2, hR2⟩ := F2.ex
      refine step hg hd (v := .slice none 0 0) (w' := w) ?_ (K g none 0 w (Fr.refl _ _) (by omega) (.inl rfl) (by simp) (Own.nil C e' w D g))
      simp only [execOp, ho, resolve, invoke, builtin, List.map_toArray, List.map_cons, List.map_nil, evn_eval hs, evn_eval hx]
      refine run_pure_value ?_
      have hcs := hS2.cells
      have hl := hS2.len w
      simp only [List.length_nil] at hcs hl ⊢
      rcases hS2.kind with ⟨e2, hk⟩ | hk <;> simp [Builtin.append_, run_underlying hE.sl, run_underlying hk, sizeOf, typeInfo, hi1, hi3, hl, hcs]
    · obtain ⟨i, hi1, hi2, hi3, hi4⟩ := hE.inf
      obtain ⟨news, hS2, hR2⟩ := F2.ex
      subst ha; subst h7
      have hnl := hR2.len
      have hcl : xs.length * C.sz + news.length ≤ cur.length := by rw [hnl, h6, ← Nat.add_mul]; exact Nat.mul_le_mul_right _ hc
      rw [← hi3] at hS2
      have hrun := run_append_room_src (P := P) w t tx o.type e' i hE.sl hi1 g 0 xs.length c v ys.length news hS2 (by omega)
        (fun j hj => by
          have hj' : xs.length * C.sz + j < cur.length := by omega
          have := h5.at_ (xs.length * C.sz + j) _ (List.getElem?_eq_getElem hj')
          rw [hi3, show 0 + xs.length * C.sz + j = 0 + (xs.length * C.sz + j) by omega, this]; rfl)
        (fun j hj => frozen_of_row w g _ cur.toArray e' h5)
      rw [hi3] at hrun
      have hset := setCells_row (g := g) (t := e') news (xs.length * C.sz) cur w h5 hcl
      have hsp := spliceL_eq cur (xs.length * C.sz) news hcl
      rw [show 0 + xs.length * C.sz = xs.length * C.sz by omega, hset] at hrun
      have hfr := fr_setRow w g (spliceL cur (xs.length * C.sz) news).toArray
      have hR := (h8.append hR2).mv hfr (by simpa using hgn)
      refine step hg hd (v := .slice (some ⟨g, 0, none⟩) (xs ++ ys).length c) ?_ (K g _ c (w.setRow g (spliceL cur (xs.length * C.sz) news).toArray) hfr (by simp) (.inl rfl) (fun _ => by have := h5.lt; simpa using this) ⟨by omega, F1.max, .inr ⟨rfl, spliceL cur (xs.length * C.sz) news, _, setRow_heap w g cur.toArray _ e' (0, 0) h5, by rw [spliceL_len]; exact h6, ?_, hR⟩⟩)
      · simp only [execOp, ho, resolve, invoke, builtin, List.map_toArray, List.map_cons, List.map_nil, evn_eval hs, evn_eval hx, hlen]
        simp [hrun]
      · have h1 : (cur.take (xs.length * C.sz)).length = xs.length * C.sz := by simp; omega
        rw [hsp, hlen, Nat.add_mul, ← hnl]
        rw [List.take_append_of_le_length (by rw [List.length_append, h1]; omega)]
        rw [List.take_of_length_le (by rw [List.length_append, h1]; omega)]
end
/-! ### Slices and structs that are written out -/
theorem foldl_splice (off : Nat) : ∀ (l : List Value) (k : Nat) (cells : Array Value), off + k + l.length ≤ cells.size → (l.zipIdx k).foldl (fun cs p => cs.setIfInBounds (off + p.2) p.1) cells = (spliceL cells.toList (off + k) l).toArray
  | [], k, cells, _ => by simp [spliceL_nil]
  | v :: l, k, cells, h => by
    simp only [List.length_cons] at h
    rw [List.zipIdx_cons, List.foldl_cons, foldl_splice off l (k + 1) _ (by simp; omega)]
    congr 1
    rw [Array.toList_setIfInBounds, ← Nat.add_assoc, spliceL_set _ _ _ _ (by simp; omega)]
theorem fill_cons {place : Nat → Option (Nat × Nat)} {cells : Array Value} {i off size : Nat} {v : Value} {r : List (Nat × Value)} (hp : place i = some (off, size)) (hs : (cellsL v).length = size) (hl : off + size ≤ cells.size) :
    Instr.fill place cells ((i, v) :: r) = Instr.fill place (spliceL cells.toList off (cellsL v)).toArray r := by
  have h1 : v.cells.size = size := by rw [cellsL_eq]; simpa using hs
  have h2 := foldl_splice off (cellsL v) 0 cells (by omega)
  have h3 : v.cells.zipIdx.foldl (fun cs p => cs.setIfInBounds (off + p.2) p.1) cells = (spliceL cells.toList off (cellsL v)).toArray := by
    rw [cellsL_eq, ← Array.foldl_toList, Array.toList_zipIdx]
    simpa using h2
  conv => lhs; unfold Instr.fill
  simp only [hp]
  rw [if_neg (by simp [h1]; omega)]
  exact congrArg (fun x => Instr.fill place x r) h3
/-- the cells of the parts, one behind the other -/
def partsL (n : Nat) (e : Env) (sz : Nat) : Nat → List (Nat × Operand) → Option (List Value)
  | _, [] => some []
  | k, (i, x) :: r => (match force (evn n e x) with
    | some v => bif Nat.beq i k && Nat.beq (cellsL v).length sz then (match partsL n e sz (k + 1) r with
        | some cs => some (cellsL v ++ cs)
        | none => none) else none
    | none => none)
theorem partsL_len {n : Nat} {e : Env} {sz : Nat} : ∀ {l : List (Nat × Operand)} {k : Nat} {cs : List Value}, partsL n e sz k l = some cs → cs.length = l.length * sz
  | [], k, cs, h => by simp [partsL] at h; simp [← h]
  | (i, x) :: r, k, cs, h => by
    simp only [partsL] at h
    split at h
    · rename_i v hv
      rw [force_eq] at hv
      cases hb : Nat.beq i k && Nat.beq (cellsL v).length sz with
      | false => rw [hb] at h; cases h
      | true =>
        rw [hb] at h
        simp only [cond_true] at h
        split at h
        · rename_i cs' hcs
          cases h
          simp only [Bool.and_eq_true] at hb
          rw [List.length_append, partsL_len hcs, Nat.eq_of_beq_eq_true hb.2, List.length_cons, Nat.add_mul]; omega
        · cases h
    · cases h
theorem partsL_fill {n : Nat} {e : Env} {sz : Nat} : ∀ {l : List (Nat × Operand)} {k : Nat} {cs : List Value} (pre : List Value) (suf : List Value), partsL n e sz k l = some cs → pre.length = k * sz → suf.length = l.length * sz →
    Instr.fill (fun i => some (i * sz, sz)) (pre ++ suf).toArray (l.map fun p => (p.1, (act n e).eval p.2)) = some (pre ++ cs).toArray
  | [], k, cs, pre, suf, h, hp, hs => by
    simp [partsL] at h
    simp at hs
    subst hs; subst h; simp [Instr.fill]
  | (i, x) :: r, k, cs, pre, suf, h, hp, hs => by
    simp only [partsL] at h
    split at h
    · rename_i v hv
      rw [force_eq] at hv
      cases hb : Nat.beq i k && Nat.beq (cellsL v).length sz with
      | false => rw [hb] at h; cases h
      | true =>
        rw [hb] at h
        simp only [cond_true] at h
        split at h
        · rename_i cs' hcs
          cases h
          simp only [Bool.and_eq_true] at hb
          have h1 := Nat.eq_of_beq_eq_true hb.1
          have h2 := Nat.eq_of_beq_eq_true hb.2
          subst h1
          rw [List.length_cons, Nat.add_mul, Nat.one_mul] at hs
          have hle : i * sz + (cellsL v).length ≤ (pre ++ suf).length := by rw [List.length_append]; omega
          simp only [List.map_cons, evn_eval hv]
          rw [fill_cons rfl h2 (by simpa [h2] using hle)]
          have e1 : spliceL (pre ++ suf) (i * sz) (cellsL v) = (pre ++ cellsL v) ++ suf.drop sz := by
            rw [spliceL_eq _ _ _ hle, ← hp, List.take_left', h2]
            · congr 1
              rw [List.drop_append]; simp
            · rfl
          have ih := partsL_fill (pre ++ cellsL v) (suf.drop sz) hcs (by rw [List.length_append, hp, h2, Nat.add_mul, Nat.one_mul]) (by rw [List.length_drop, hs]; omega)
          rw [e1, ih]; simp
        · cases h
    · cases h
section
variable {P : Program} {n : Nat} {ops : Array Oper} {Q : Post} {e : Env} {w : World} {rest l : List Oper} {o : Oper} {d : Nat} {T : Tab}
/-- a slice that is written out -/
theorem mkSlice (hT : tabB P T = true) {t e' len sz : Nat} {parts : Array (Nat × Operand)} {cs : List Value} {z : Value} (hz : zeroT P e' = some z) (ho : o.op = .buildSlice t len parts) (ht : look T t = some (.sl e')) (hs : sizeT P e' = some sz) (hzs : Nat.beq (cellsL z).length sz = true)
    (hp : partsL n e sz 0 parts.toList = some cs) (hl : Nat.beq parts.toList.length len = true) (hg : o.guard = none) (hd : o.dst = some d) (hb : Nat.ble (len * sz) 16777216 = true)
    (K : ∀ k w', w.heap.size = k → w'.heap.size = k + 1 → Gr w w' → Cells w' k cs e' → VL P n ops Q rest (e.set d (.slice (some ⟨k, 0, none⟩) len len)) w') : VL P n ops Q (o :: rest) e w := by
  have hl' := Nat.eq_of_beq_eq_true hl
  have hzs' := Nat.eq_of_beq_eq_true hzs
  have hb' : ¬ (len * sz > 2 ^ 24) := by have := Nat.le_of_ble_eq_true hb; omega
  refine step hg hd (w' := w.alloc (.cells cs.toArray e')) ?_ (K _ _ rfl (by simp) (gr_alloc _ _) (cells_new _ _ _))
  simp only [execOp, ho]
  have hmap : ((parts.map fun p => (p.1, (act n e).eval p.2)).toList) = parts.toList.map fun p => (p.1, (act n e).eval p.2) := by simp
  have key : ∀ (zs : Array Value), zs.size = len * sz → Instr.fill (fun i => some (i * sz, sz)) zs ((parts.map fun p => (p.1, (act n e).eval p.2)).toList) = some cs.toArray := by
    intro zs hzs2
    rw [hmap]
    have := partsL_fill [] zs.toList hp (by simp) (by rw [Array.length_toList, hzs2, hl'])
    simpa using this
  have hfun : (parts.map fun x => match x with | (i, x) => (i, (act n e).eval x)) = parts.map fun p => (p.1, (act n e).eval p.2) := rfl
  refine run_value ?_
  rw [hfun]
  generalize hpv : (parts.map fun p => (p.1, (act n e).eval p.2)) = pv at key
  by_cases h0 : len * sz = 0
  · simp [Instr.buildSlice, run_underlying (look_sl hT ht), run_sizeOf' hs, h0, key, newRow]
  · simp [Instr.buildSlice, run_underlying (look_sl hT ht), run_sizeOf' hs, hb', h0, key, run_zero hz, newRow]
end
/-! ### Short forms for the printed walks -/
section
variable {w w' : World} {α : Type} {C : Cod α} {k g t c : Nat} {D : Nat → Prop} {a : Option Addr} {xs : List α} {cs : List Value}
theorem Cells.mv1 (h : Cells w g cs t) (f : Fr [k] w w') (hn : k ≠ g) : Cells w' g cs t := h.mv f (by simpa using hn)
theorem Sl.mv1 (h : Sl C w D a c xs) (f : Fr [k] w w') (hn : ¬ D k) : Sl C w' D a c xs := h.mv f (by simpa using hn)
theorem Own.mv1 (h : Own C t w D g a c xs) (f : Fr [k] w w') (hn : k ≠ g ∧ ¬ D k) : Own C t w' D g a c xs := h.mv f (by simpa using hn.1) (by simpa using hn.2)
theorem Fr.new1 {S : List Nat} {a b c : World} {i : Nat} (h : Fr S a b) (f : Fr [i] b c) (hs : i ∈ S ∨ a.heap.size ≤ i) : Fr S a c := h.new f (by simpa using hs)
theorem Fr.grow {S : List Nat} {a b c : World} (h : Fr S a b) (f : Gr b c) : Fr S a c := h.gr f
end
section
variable {P : Program} {n : Nat} {Q : Post} {e : Env} {w : World} {K : Env → World → Prop}
theorem tN (h : K e w) : thn K Q .normal e w := h
theorem tR (h : Q .ret e w) : thn K Q .ret e w := h
theorem tX {i : Nat} (h : Q (.exit i) e w) : thn K Q (.exit i) e w := h
theorem bN {i : Nat} (h : Q .normal e w) : blk i Q .normal e w := h
theorem bR {i : Nat} (h : Q .ret e w) : blk i Q .ret e w := h
theorem bE {i : Nat} (h : Q .normal e w) : blk i Q (.exit i) e w := by simp [blk]; exact h
end
set_option linter.unusedVariables false
/-! ### A slice that came in, or a row of one's own, that grows -/
def Flat {α : Type} (C : Cod α) : Prop := ∀ {w w' : World} {D D' : Nat → Prop} {x : α} {cs : List Value}, C.R w D x cs → C.R w' D' x cs
theorem flat_byte : Flat Cod.byte := fun h => h
theorem Reps.flat {α : Type} {C : Cod α} (hf : Flat C) {w w' : World} {D D' : Nat → Prop} : ∀ {xs : List α} {cs : List Value}, Reps C w D xs cs → Reps C w' D' xs cs
  | [], cs, h => h
  | x :: xs, cs, ⟨c1, c2, h, h1, h2⟩ => ⟨c1, c2, h, hf h1, Reps.flat hf h2⟩
theorem From.flat {P : Program} {α : Type} {C : Cod α} (hf : Flat C) {tx : Nat} {w : World} {D D' : Nat → Prop} {v : Value} {ys : List α} (h : From P C tx w D v ys) : From P C tx w D' v ys :=
  let ⟨news, a, b⟩ := h.ex; ⟨news, a, b.flat hf⟩
theorem Own.flat {α : Type} {C : Cod α} (hf : Flat C) {t g c : Nat} {w : World} {D D' : Nat → Prop} {a : Option Addr} {xs : List α} (h : Own C t w D g a c xs) : Own C t w D' g a c xs :=
  ⟨h.cap, h.max, h.row.imp id fun ⟨h3, cur, cs, h4, h5, h6, h7⟩ => ⟨h3, cur, cs, h4, h5, h6, h7.flat hf⟩⟩
theorem Sl.flat {α : Type} {C : Cod α} (hf : Flat C) {c : Nat} {w : World} {D D' : Nat → Prop} {a : Option Addr} {xs : List α} (h : Sl C w D a c xs) (h1 : ∀ k, D k → D' k) : Sl C w D' a c xs := h.mono h1
abbrev None' : Nat → Prop := fun _ => False
/-- all below block number b is as it was -/
abbrev Bl (b : Nat) (w w' : World) : Prop := Below b w w'
theorem Fr.bl {S : List Nat} {a b c : World} (h : Fr S a b) (k : Bl a.heap.size b c) : Fr S a c :=
  ⟨k.os.trans h.os, k.tape.trans h.tape, k.output.trans h.output, Nat.le_trans h.size k.size, fun i hi hn => (k.block i hi).trans (h.block i hi hn)⟩
section
variable {w w' : World} {α : Type} {C : Cod α} {k g t c b : Nat} {D : Nat → Prop} {a : Option Addr} {xs : List α} {cs : List Value}
theorem Bl.fr {i : Nat} (h : Fr [i] w w') (hi : b ≤ i) (hb : b ≤ w.heap.size) : Bl b w w' :=
  ⟨h.os, h.tape, h.output, h.size, fun k hk => h.block k (by omega) (by simp; omega)⟩
theorem Bl.gr (h : Gr w w') (hb : b ≤ w.heap.size) : Bl b w w' := ⟨h.os, h.tape, h.output, h.size, fun k hk => h.block k (by omega) (by simp)⟩
theorem Cells.bl (h : Cells w g cs t) (f : Bl b w w') (hn : g < b) : Cells w' g cs t := (f.block g hn).trans h
/-- a frame for blocks below b: S are those that are there and not below b -/
theorem Bl.asFr (f : Bl b w w') : Fr ((List.range w.heap.size).filter (fun i => b ≤ i)) w w' :=
  ⟨f.os, f.tape, f.output, f.size, fun k hk hn => f.block k (by simp [hk] at hn; exact hn)⟩
theorem Sl.bl (h : Sl C w D a c xs) (f : Bl b w w') (hn : ∀ k, D k → k < b) : Sl C w' D a c xs :=
  h.mv f.asFr (fun i hi hD => by have := hn i hD; simp at hi; omega)
theorem Own.bl (h : Own C t w D g a c xs) (f : Bl b w w') (hn : g < b ∧ ∀ k, D k → k < b) : Own C t w' D g a c xs :=
  h.mv f.asFr (fun i hi e => by subst e; simp at hi; omega) (fun i hi hD => by have := hn.2 i hD; simp at hi; omega)
end
/-- The slice has no room behind its elements and lies below block b, or its row is one's own, from b on. -/
structure Acc {α : Type} (C : Cod α) (t : Nat) (w : World) (b : Nat) (a : Option Addr) (c : Nat) (xs : List α) : Prop where
  st : (c = xs.length ∧ Sl C w (fun k => k < b) a c xs) ∨ ∃ g, b ≤ g ∧ Own C t w None' g a c xs
section
variable {P : Program} {α : Type} {C : Cod α} {w w' : World} {D : Nat → Prop} {b t c : Nat} {a : Option Addr} {xs ys : List α} {n : Nat} {ops : Array Oper} {Q : Post} {e : Env} {rest l : List Oper} {o : Oper} {d : Nat} {T : Tab}
theorem Acc.sl (h : Acc C t w b a c xs) : Sl C w (fun _ => True) a c xs := by
  rcases h.st with ⟨_, h⟩ | ⟨g, _, h⟩
  · exact h.mono (fun _ _ => trivial)
  · exact h.sl (fun _ _ => trivial) trivial
theorem Acc.gr (h : Acc C t w b a c xs) (f : Gr w w') : Acc C t w' b a c xs := ⟨h.st.imp (fun ⟨h1, h2⟩ => ⟨h1, h2.gr f⟩) (fun ⟨g, h1, h2⟩ => ⟨g, h1, h2.gr f⟩)⟩
end
section
variable {P : Program} {α : Type} {C : Cod α} {w : World} {n : Nat} {ops : Array Oper} {Q : Post} {e : Env} {rest : List Oper} {o : Oper} {d : Nat} {T : Tab}
end
theorem Cells.sl {α : Type} {C : Cod α} {w : World} {k t : Nat} {cs : List Value} {D : Nat → Prop} {xs : List α} (F : Cells w k cs t) (hR : Reps C w D xs cs) (hD : D k) (hm : xs.length ≤ maxLen) : Sl C w D (some ⟨k, 0, none⟩) xs.length xs :=
  hR.sl F.at_ hD (Nat.le_refl _) hm
/-! ### Structs that are written out -/
def buildS (n : Nat) (e : Env) (fs : List (Nat × Nat × Nat × Bool)) : List Value → List (Nat × Operand) → Option (List Value)
  | z, [] => some z
  | z, (i, x) :: r => (match fs[i]?, force (evn n e x) with
    | some (_, off, sz, _), some v => bif Nat.beq (cellsL v).length sz && Nat.ble (off + sz) z.length then buildS n e fs (spliceL z off (cellsL v)) r else none
    | _, _ => none)
theorem places_run {P : Program} {w : World} : ∀ {fields : List Field} {fs : List (Nat × Nat × Nat × Bool)}, fieldsB P fields fs = true →
    (fields.mapM fun f => do pure (f.offset, ← sizeOf f.type) : Sem (List (Nat × Nat))).run P w = .ok (fs.map fun g => (g.2.1, g.2.2.1)) w
  | [], [], _ => by simp
  | f :: fields, g :: fs, h => by
    simp only [fieldsB, Bool.and_eq_true] at h
    have hf := h.1
    simp only [fieldB, Bool.and_eq_true, beq_iff_eq] at hf
    obtain ⟨⟨⟨⟨⟨h1, h2⟩, h3⟩, h4⟩, h5⟩, h6⟩ := hf
    have ih := places_run (P := P) (w := w) h.2
    have hs := run_sizeOf' (w := w) h3
    simp only [bind_pure_comp] at ih
    simp [hs, ih, h2]
  | [], _ :: _, h => by simp [fieldsB] at h
  | _ :: _, [], h => by simp [fieldsB] at h
theorem buildS_fill {n : Nat} {e : Env} {fs : List (Nat × Nat × Nat × Bool)} : ∀ {parts : List (Nat × Operand)} {z cs : List Value}, buildS n e fs z parts = some cs →
    Instr.fill (fun i => ((fs.map fun g => (g.2.1, g.2.2.1)).toArray)[i]?) z.toArray (parts.map fun p => (p.1, (act n e).eval p.2)) = some cs.toArray
  | [], z, cs, h => by simp [buildS] at h; subst h; simp [Instr.fill]
  | (i, x) :: r, z, cs, h => by
    simp only [buildS] at h
    split at h
    · rename_i t off sz agg v hf hv
      rw [force_eq] at hv
      cases hb : Nat.beq (cellsL v).length sz && Nat.ble (off + sz) z.length with
      | false => rw [hb] at h; cases h
      | true =>
        rw [hb] at h
        simp only [cond_true] at h
        simp only [Bool.and_eq_true] at hb
        have h1 := Nat.eq_of_beq_eq_true hb.1
        have h2 := Nat.le_of_ble_eq_true hb.2
        simp only [List.map_cons, evn_eval hv]
        rw [fill_cons (off := off) (size := sz) (by simp [hf]) h1 (by simpa using h2)]
        exact buildS_fill h
    · cases h
section
variable {P : Program} {n : Nat} {ops : Array Oper} {Q : Post} {e : Env} {w : World} {rest l : List Oper} {o : Oper} {d : Nat} {T : Tab}
/-- a struct that is written out -/
theorem mkStruct (hT : tabB P T = true) {t sz : Nat} {fs : List (Nat × Nat × Nat × Bool)} {parts : Array (Nat × Operand)} {cs : List Value} {z : Value} (hz : zeroT P t = some z) (ho : o.op = .build t parts) (ht : look T t = some (.struct sz fs))
    (hp : buildS n e fs (cellsL z) parts.toList = some cs) (hg : o.guard = none) (hd : o.dst = some d) (K : VL P n ops Q rest (e.set d (.agg cs.toArray)) w) : VL P n ops Q (o :: rest) e w := by
  obtain ⟨fields, hu, hfs, hsz⟩ := look_struct hT ht
  refine step hg hd ?_ K
  simp only [execOp, ho]
  refine run_pure_value ?_
  have hpl := places_run (P := P) (w := w) hfs
  have hfill := buildS_fill hp
  have hfun : (parts.map fun x => match x with | (i, x) => (i, (act n e).eval x)).toList = parts.toList.map fun p => (p.1, (act n e).eval p.2) := by
    rw [Array.toList_map]
  have hpl2 : (fields.mapM fun f => do pure (f.offset, ← sizeOf f.type) : Sem (Array (Nat × Nat))).run P w = .ok (fs.map fun g => (g.2.1, g.2.2.1)).toArray w := by
    rw [Array.mapM_eq_mapM_toList]
    simp only [bind_pure_comp] at hpl
    simp [hpl]
  unfold Instr.build
  simp only [Sem.run_bind, run_zero hz, Result.andThen_ok, run_underlying hu, hpl2, hfun]
  have hc : z.cells = (cellsL z).toArray := cellsL_eq z
  rw [hc, hfill]
  rfl
end
/-- A row of one's own, made since w. -/
structure New {α : Type} (C : Cod α) (t : Nat) (w w' : World) (a : Option Addr) (c : Nat) (xs : List α) : Prop where
  ex : ∃ g, w.heap.size ≤ g ∧ g < w'.heap.size ∧ Own C t w' None' g a c xs
theorem New.gr {α : Type} {C : Cod α} {t c : Nat} {w w1 w2 : World} {a : Option Addr} {xs : List α} (h : New C t w w1 a c xs) (f : Gr w1 w2) : New C t w w2 a c xs :=
  let ⟨g, h1, h2, h3⟩ := h.ex; ⟨g, h1, Nat.lt_of_lt_of_le h2 f.size, h3.gr f⟩
theorem New.sl {α : Type} {C : Cod α} {t c : Nat} {w w1 : World} {a : Option Addr} {xs : List α} (h : New C t w w1 a c xs) : Sl C w1 (fun k => w.heap.size ≤ k ∧ k < w1.heap.size) a c xs :=
  let ⟨_, h1, h2, h3⟩ := h.ex; h3.sl (fun _ h => h.elim) ⟨h1, h2⟩
theorem Sl.len63 {α : Type} {C : Cod α} {w : World} {D : Nat → Prop} {c : Nat} {a : Option Addr} {xs : List α} (h : Sl C w D a c xs) : xs.length ≤ 9223372036854775807 := by
  have h1 := h.cap; have h2 := h.max; simp only [maxLen] at h2; omega
theorem Sl.none {α : Type} {C : Cod α} {w : World} {D : Nat → Prop} {c : Nat} {a : Option Addr} {xs : List α} (h : Sl C w D a c xs) (ha : a = none) : xs = [] := by
  rcases Nat.eq_zero_or_pos xs.length with h0 | h0
  · exact List.length_eq_zero_iff.1 h0
  · obtain ⟨b, o, h1, _⟩ := h.els h0; rw [ha] at h1; cases h1
section
variable {P : Program} {α : Type} {C : Cod α} {w : World} {D : Nat → Prop} {ys : List α} {n : Nat} {ops : Array Oper} {Q : Post} {e : Env} {rest l : List Oper} {o : Oper} {d : Nat} {T : Tab}
end
/-! ### Regions whose order is drawn and whose operations write nothing that was there -/
def VQ (P : Program) (n : Nat) (ops : Array Oper) (KC : World → Prop) (w : World) (Q : Env → Prop) (l : List Oper) (e : Env) : Prop :=
  (∀ w', KC w' → Gr w w') → wpQuiet P ops KC (fun a => ∃ e', a = act n e' ∧ Q e') l (act n e)
section
variable {P : Program} {n : Nat} {ops : Array Oper} {KC : World → Prop} {w : World} {Q : Env → Prop} {e : Env} {rest l : List Oper} {o : Oper} {d : Nat} {T : Tab}
theorem drawQ {id : Nat} {ops : Array Oper} {Q : Post} (hm : P.follows .mixedOrders = true) (hB : Region.lexB .any ops = true) (h : VQ P n ops (fun w' => Gr w w') w (fun e' => ∀ w', Gr w w' → Q .normal e' w') ops.toList e) : VC P n (.region id ops true) Q e w := by
  unfold VC
  refine wp_region_quiet (C := fun w' => Gr w w') hm hB (gr_drew w) ?_
  replace h := h (fun _ h => h)
  have mono : ∀ (l : List Oper) (a : Act), wpQuiet P ops (fun w' => Gr w w') (fun a => ∃ e', a = act n e' ∧ ∀ w', Gr w w' → Q .normal e' w') l a → wpQuiet P ops (fun w' => Gr w w') (fun a' => ∀ w', Gr w w' → lift n Q .normal a' w') l a := by
    intro l
    induction l with
    | nil => rintro a ⟨e', h1, h2⟩ w' hw'; exact ⟨e', h1, h2 w' hw'⟩
    | cons o l ih =>
      intro a h
      unfold wpQuiet at h ⊢
      split
      · rename_i hw; rw [if_pos hw] at h; exact Oper.quiet_mono (fun a h => ih a h) h
      · rename_i hw; rw [if_neg hw] at h; exact ih _ h
  exact mono _ _ h
theorem qnil (h : Q e) : VQ P n ops KC w Q [] e := fun _ => ⟨e, rfl, h⟩
theorem qstep {v : Value} (hg : o.guard = none) (hd : o.dst = some d) (hr : ∀ w', Gr w w' → (execOp (act n e).eval o).run P w' = .ok (.value v) w') (k : VQ P n ops KC w Q rest (e.set d v)) : VQ P n ops KC w Q (o :: rest) e := by
  intro hK
  unfold wpQuiet
  rw [if_pos (by simp [Region.wanted, hg])]
  refine ⟨v, fun w' hw' => ?_, ?_⟩
  · unfold Oper.quietAt
    rw [hr w' (hK w' hw')]
    exact ⟨rfl, rfl⟩
  · rw [act_put, hd]; exact k hK
theorem qyes {j : Nat} {b : Bool} {o' : Oper} (hg : o.guard = some (j, b)) (hy : yldE ops n e j = some b) (ho : { o with guard := none } = o') (k : VQ P n ops KC w Q (o' :: rest) e) : VQ P n ops KC w Q (o :: rest) e := by
  subst ho
  intro hK
  replace k := k hK
  unfold wpQuiet at k ⊢
  have h1 : Region.wanted o (yielded ops (act n e).tmps) = true := by simp [Region.wanted, hg, yld_run hy]
  have h2 : Region.wanted { o with guard := none } (yielded ops (act n e).tmps) = true := by simp [Region.wanted]
  rw [if_pos h1]
  rw [if_pos h2] at k
  exact k
theorem qno {j : Nat} {b b' : Bool} (hg : o.guard = some (j, b')) (hy : yldE ops n e j = some b) (hne : (b == b') = false) (hd : o.dst = some d) (k : VQ P n ops KC w Q rest (e.set d undef)) : VQ P n ops KC w Q (o :: rest) e := by
  intro hK
  unfold wpQuiet
  have h1 : ¬ Region.wanted o (yielded ops (act n e).tmps) = true := by simpa [Region.wanted, hg, yld_run hy] using hne
  rw [if_neg h1, act_put, hd]
  exact k hK
theorem qnoU {j : Nat} {b' : Bool} (hg : o.guard = some (j, b')) (hy : yldE ops n e j = none) (hd : o.dst = some d) (k : VQ P n ops KC w Q rest (e.set d undef)) : VQ P n ops KC w Q (o :: rest) e := by
  intro hK
  unfold wpQuiet
  have h1 : ¬ Region.wanted o (yielded ops (act n e).tmps) = true := by simp [Region.wanted, hg, yld_none hy]
  rw [if_neg h1, act_put, hd]
  exact k hK
theorem qsplit {j t : Nat} {b : Bool} (hy : yldE ops n e j = some b) (ht : dstE ops j = some t) (h1 : b = true → VQ P n ops KC w Q l (e.set t (.bool true))) (h2 : b = false → VQ P n ops KC w Q l (e.set t (.bool false))) : VQ P n ops KC w Q l e := by
  have h := dst_yld hy ht
  cases b with
  | true => rw [set_self h] at h1; exact h1 rfl
  | false => rw [set_self h] at h2; exact h2 rfl
theorem qrun (hT : tabB P T = true) : ∀ (k : Nat) {l : List Oper} {e e' : Env}, runK T n ops k l e = some (e', rest) → VQ P n ops KC w Q rest e' → VQ P n ops KC w Q l e
  | 0, l, e, e', h, hk => by simp only [runK, Option.some.injEq, Prod.mk.injEq] at h; obtain ⟨rfl, rfl⟩ := h; exact hk
  | k + 1, [], e, e', h, hk => by simp [runK] at h
  | k + 1, o :: l, e, e', h, hk => by
    simp only [runK] at h
    split at h
    · cases h
    · rename_i d hd
      split at h
      · rename_i hg
        split at h
        · rename_i v hv; exact qstep hg hd (fun _ _ => pureOp_run hT hv) (qrun hT k h hk)
        · cases h
      · rename_i j b hg
        split at h
        · rename_i b' hy
          cases hb : b' == b with
          | true =>
            rw [hb] at h
            simp only [cond_true] at h
            have : b' = b := eq_of_beq hb
            subst this
            split at h
            · rename_i v hv; exact qyes hg hy rfl (qstep (o := { o with guard := none }) rfl hd (fun _ _ => pureOp_run (o := { o with guard := none }) hT hv) (qrun hT k h hk))
            · cases h
          | false =>
            rw [hb] at h
            exact qno hg hy hb hd (qrun hT k h hk)
        · rename_i hy
          exact qnoU hg hy hd (qrun hT k h hk)

theorem qloadA (hT : tabB P T = true) {b o0 off t : Nat} {cs : List Value} {x : Operand} {v : Value} (F : At w b o0 cs) (ho : o.op = .load t x) (hx : evn n e x = some (.pointer (some ⟨b, o0 + off, none⟩))) (hv : force (loadC T t cs off) = some v) (hg : o.guard = none) (hd : o.dst = some d)
    (K : VQ P n ops KC w Q rest (e.set d v)) : VQ P n ops KC w Q (o :: rest) e := by
  refine qstep hg hd (fun w' g => ?_) K
  simp only [execOp, ho, evn_eval hx]
  refine run_pure_value ?_
  rw [force_eq] at hv
  simp [Instr.loadAt, Instr.sureAddr, run_loadC hT (F.mv g (by simp)) hv]
theorem qloadO (hT : tabB P T = true) {k off t ty : Nat} {cs : List Value} {x : Operand} {v : Value} (F : Cells w k cs ty) (ho : o.op = .load t x) (hx : evn n e x = some (.pointer (some ⟨k, off, none⟩))) (hv : force (loadC T t cs off) = some v) (hg : o.guard = none) (hd : o.dst = some d)
    (K : VQ P n ops KC w Q rest (e.set d v)) : VQ P n ops KC w Q (o :: rest) e :=
  qloadA hT (o0 := 0) (off := off) F.at_ ho (by rw [Nat.zero_add]; exact hx) hv hg hd K
theorem qelem {α : Type} {C : Cod α} (hT : tabB P T = true) {t e' c : Nat} {D : Nat → Prop} {a : Option Addr} {xs : List α} {x ix : Operand} {k : IntKind} {i : Int} (F : Sl C w D a c xs) (ho : o.op = .indexAddr t x ix) (ht : look T t = some (.sl e')) (hs : sizeT P e' = some C.sz)
    (hx : evn n e x = some (.slice a xs.length c)) (hi' : evn n e ix = some (.int k i)) (hg : o.guard = none) (hd : o.dst = some d) (h0 : 0 ≤ i) (h1 : i < xs.length)
    (K : ∀ b oo cs (h : i.toNat < xs.length), D b → C.R w D (xs[i.toNat]) cs → At w b oo cs → VQ P n ops KC w Q rest (e.set d (.pointer (some ⟨b, oo, none⟩)))) : VQ P n ops KC w Q (o :: rest) e := by
  have hlt : i.toNat < xs.length := by omega
  obtain ⟨b, oo, rfl, hb1, hel⟩ := F.els (by omega)
  obtain ⟨cs, h2, h3⟩ := hel i.toNat hlt
  refine qstep hg hd (fun w' _ => ?_) (K b (oo + i.toNat * C.sz) cs hlt hb1 h2 h3)
  simp only [execOp, ho, evn_eval hx, evn_eval hi']
  refine run_pure_value ?_
  simp [Instr.indexAt, asIntOf, run_underlying (look_sl hT ht), h0, h1, run_sizeOf' hs, Addr.add_lit]
/-- a call that hands back a known value -/
theorem clo {w : World} (w' w'' : World) (h : Gr w w') (h' : Gr w' w'') : Gr w w'' := Gr.trans h h'
theorem qcall {k : Nat} {args : List Value} {v : Value} (hcl : ∀ w' w'', KC w' → Gr w' w'' → KC w'') (hs : ∀ w', Gr w w' → Meets P k args w' (fun u w'' => u = v ∧ Gr w' w'')) (hc : callE n e o = some (k, args)) (hg : o.guard = none) (hd : o.dst = some d)
    (K : VQ P n ops KC w Q rest (e.set d v)) : VQ P n ops KC w Q (o :: rest) e := by
  intro hK
  unfold wpQuiet
  rw [if_pos (by simp [Region.wanted, hg])]
  refine ⟨v, fun w' hw' => ?_, ?_⟩
  · have hs' := hs w' (hK w' hw')
    have hrun := callE_run hs'.1 hc (w := w')
    unfold Oper.quietAt
    rw [hrun]
    refine ⟨rfl, hs'.2.mono ?_⟩
    rintro _ w'' ⟨u, rfl, rfl, hu⟩
    exact ⟨rfl, hcl _ _ hw' hu⟩
  · rw [act_put, hd]; exact K hK
theorem Meets.gr {k : Nat} {args : List Value} {v : Value} (h : Meets P k args w (fun u w' => w = w' ∧ u = v)) : Meets P k args w (fun u w' => u = v ∧ Gr w w') := h.mono (by rintro u w' ⟨rfl, rfl⟩; exact ⟨rfl, Fr.refl _ _⟩)
theorem qaddN {t t' : Nat} {x y : Operand} {a b : Int} (ho : o.op = .binOp .add t x y t') (hx : evn n e x = some (.int .i64 a)) (hy : evn n e y = some (.int .i64 b)) (hg : o.guard = none) (hd : o.dst = some d) (h0 : -9223372036854775808 ≤ a + b) (h1 : a + b ≤ 9223372036854775807)
    (K : VQ P n ops KC w Q rest (e.set d (.int .i64 (a + b)))) : VQ P n ops KC w Q (o :: rest) e := by
  refine qstep hg hd (fun _ _ => ?_) K
  simp only [execOp, ho, evn_eval hx, evn_eval hy]
  refine run_pure_value (bin1_run ?_)
  simp [bin1, bin2, wrap_in h0 h1]
theorem qsubN {t t' : Nat} {x y : Operand} {a b : Int} (ho : o.op = .binOp .sub t x y t') (hx : evn n e x = some (.int .i64 a)) (hy : evn n e y = some (.int .i64 b)) (hg : o.guard = none) (hd : o.dst = some d) (h0 : -9223372036854775808 ≤ a - b) (h1 : a - b ≤ 9223372036854775807)
    (K : VQ P n ops KC w Q rest (e.set d (.int .i64 (a - b)))) : VQ P n ops KC w Q (o :: rest) e := by
  refine qstep hg hd (fun _ _ => ?_) K
  simp only [execOp, ho, evn_eval hx, evn_eval hy]
  refine run_pure_value (bin1_run ?_)
  simp [bin1, bin2, wrap_in h0 h1]
end
section
variable {P : Program} {n : Nat} {ops : Array Oper} {KC : World → Prop} {Q : Env → Prop} {e : Env} {w : World} {rest l : List Oper} {o : Oper} {T : Tab}
end
attribute [irreducible] VL VC VQ
end Go.Proofs.Ytphohfpbdkgnaaa.V
