/- Proved here: walks: what functions of this seat's program return and what they leave of memory, each as a contract. Conditions: stated at each theorem. -/
import Derived.Shelf.Strconv.Itoa3
import Derived.Lib.ItoaNum
import Derived.Lib.LaidTab
import Derived.Test.YtbpfojlnndkaoaaDoorMl3
namespace Go.Proofs.YtbpfojlnndkaoaaDoor
set_option linter.unusedVariables false
set_option linter.unusedSimpArgs false
open Go
open V (Bytes Meets Env Sl Own Gr Fr Cells S)
def laysItoa_ren : Go.Shelf.Ren := ⟨fun | 171 => 30 | 243 => 40 | 246 => 44 | 283 => 45 | 284 => 46 | 285 => 47 | 286 => 48 | 129 => 50 | 317 => 49 | 318 => 51 | 319 => 52 | 320 => 53 | 337 => 54 | 338 => 55 | n => n, fun | 3 => 3 | 9 => 9 | 2 => 2 | 4 => 4 | 171 => 70 | 0 => 0 | 53 => 65 | 37 => 37 | 5 => 5 | 173 => 73 | 212 => 77 | 51 => 78 | 20 => 20 | 213 => 79 | 46 => 68 | 232 => 82 | 233 => 83 | n => n, fun | 17 => 0 | 18 => 1 | 19 => 2 | n => n⟩
theorem laysItoa : Go.Proofs.LaysM.n171 Tryd.prog laysItoa_ren where
  mixed := by kernel_rfl
  f129 := Tryd.func50.trans (congrArg some (by kernel_rfl))
  f171 := Tryd.func30.trans (congrArg some (by kernel_rfl))
  f243 := Tryd.func40.trans (congrArg some (by kernel_rfl))
  f246 := Tryd.func44.trans (congrArg some (by kernel_rfl))
  f283 := Tryd.func45.trans (congrArg some (by kernel_rfl))
  f284 := Tryd.func46.trans (congrArg some (by kernel_rfl))
  f285 := Tryd.func47.trans (congrArg some (by kernel_rfl))
  f286 := Tryd.func48.trans (congrArg some (by kernel_rfl))
  f317 := Tryd.func49.trans (congrArg some (by kernel_rfl))
  f318 := Tryd.func51.trans (congrArg some (by kernel_rfl))
  f319 := Tryd.func52.trans (congrArg some (by kernel_rfl))
  f320 := Tryd.func53.trans (congrArg some (by kernel_rfl))
  f337 := Tryd.func54.trans (congrArg some (by kernel_rfl))
  f338 := Tryd.func55.trans (congrArg some (by kernel_rfl))
  t0 := Tryd.underlying0
  a0 := Tryd.isAgg0
  z0 := Tryd.sizeOf0
  v0 := Tryd.zeroValue0
  t2 := Tryd.underlying2
  a2 := Tryd.isAgg2
  z2 := Tryd.sizeOf2
  v2 := Tryd.zeroValue2
  t3 := Tryd.underlying3
  a3 := Tryd.isAgg3
  z3 := Tryd.sizeOf3
  v3 := Tryd.zeroValue3
  t4 := Tryd.underlying4
  a4 := Tryd.isAgg4
  z4 := Tryd.sizeOf4
  v4 := Tryd.zeroValue4
  t5 := Tryd.underlying5
  a5 := Tryd.isAgg5
  z5 := Tryd.sizeOf5
  v5 := Tryd.zeroValue5
  t9 := Tryd.underlying9
  a9 := Tryd.isAgg9
  z9 := Tryd.sizeOf9
  v9 := Tryd.zeroValue9
  t20 := Tryd.underlying20
  a20 := Tryd.isAgg20
  z20 := Tryd.sizeOf20
  v20 := Tryd.zeroValue20
  t37 := Tryd.underlying37
  a37 := Tryd.isAgg37
  z37 := Tryd.sizeOf37
  v37 := Tryd.zeroValue37
  t46 := Tryd.underlying68
  a46 := Tryd.isAgg68
  z46 := Tryd.sizeOf68
  v46 := Tryd.zeroValue68
  t51 := Tryd.underlying78
  a51 := Tryd.isAgg78
  z51 := Tryd.sizeOf78
  v51 := Tryd.zeroValue78
  t53 := Tryd.underlying65
  a53 := Tryd.isAgg65
  z53 := Tryd.sizeOf65
  v53 := Tryd.zeroValue65
  t171 := Tryd.underlying70
  a171 := Tryd.isAgg70
  z171 := Tryd.sizeOf70
  v171 := Tryd.zeroValue70
  t173 := Tryd.underlying73
  a173 := Tryd.isAgg73
  z173 := Tryd.sizeOf73
  v173 := Tryd.zeroValue73
  t212 := Tryd.underlying77
  a212 := Tryd.isAgg77
  z212 := Tryd.sizeOf77
  v212 := Tryd.zeroValue77
  t213 := Tryd.underlying79
  a213 := Tryd.isAgg79
  z213 := Tryd.sizeOf79
  t232 := Tryd.underlying82
  a232 := Tryd.isAgg82
  z232 := Tryd.sizeOf82
  v232 := Tryd.zeroValue82
  t233 := Tryd.underlying83
  a233 := Tryd.isAgg83
  z233 := Tryd.sizeOf83
  v233 := Tryd.zeroValue83
  g17 := by kernel_rfl
  g18 := by kernel_rfl
  g19 := by kernel_rfl
  i0 := by kernel_rfl
  i2 := by kernel_rfl
  i3 := by kernel_rfl
  i4 := by kernel_rfl
  i5 := by kernel_rfl
  i9 := by kernel_rfl
  i20 := by kernel_rfl
  i37 := by kernel_rfl
  i46 := by kernel_rfl
  i51 := by kernel_rfl
  i53 := by kernel_rfl
  i171 := by kernel_rfl
  i173 := by kernel_rfl
  i212 := by kernel_rfl
  i232 := by kernel_rfl
  i233 := by kernel_rfl
  m17 := by kernel_rfl
  m18 := by kernel_rfl
  m19 := by kernel_rfl

def FG (n : Nat) (acc : List UInt8) : List UInt8 := if acc = [] ∨ 0 < n then Go.Lib.decDigits n ++ acc else acc
theorem dec_small {n : Nat} (h : n < 10) : Go.Lib.decDigits n = [UInt8.ofNat (48 + n)] := by rw [Go.Lib.decDigits, dif_pos h]
theorem dec_big {n : Nat} (h : ¬ n < 10) : Go.Lib.decDigits n = Go.Lib.decDigits (n / 10) ++ [UInt8.ofNat (48 + n % 10)] := by rw [Go.Lib.decDigits, dif_neg h]
theorem FG_step {n : Nat} {acc : List UInt8} (h : acc = [] ∨ 0 < n) : FG (n / 10) (UInt8.ofNat (48 + n % 10) :: acc) = FG n acc := by
  unfold FG; rw [if_pos h]
  by_cases h1 : n < 10
  · rw [if_neg (by simp; omega), dec_small h1, Nat.mod_eq_of_lt h1]; rfl
  · rw [if_pos (.inr (by omega)), dec_big h1]; simp
theorem FG_end {n : Nat} {acc : List UInt8} (h : ¬ (acc = [] ∨ 0 < n)) : FG n acc = acc := by unfold FG; rw [if_neg h]
theorem FG_zero {n : Nat} : FG n [] = Go.Lib.decDigits n := by unfold FG; rw [if_pos (.inl rfl)]; simp
theorem FG_len {n : Nat} {acc : List UInt8} : acc.length ≤ (FG n acc).length := by unfold FG; split <;> simp
theorem dec_ne (n : Nat) : Go.Lib.decDigits n ≠ [] := by
  by_cases h : n < 10
  · rw [dec_small h]; simp
  · rw [dec_big h]; simp
theorem decL_len : ∀ (k n : Nat), n < 10 ^ (k + 1) → (Go.Lib.decDigits n).length ≤ k + 1
  | 0, n, h => by rw [dec_small (by simpa using h)]; simp
  | k + 1, n, h => by
    by_cases h1 : n < 10
    · rw [dec_small h1]; simp
    · rw [dec_big h1, List.length_append]
      have := decL_len k (n / 10) (by rw [Nat.div_lt_iff_lt_mul (by omega)]; rw [Nat.pow_succ] at h; exact h)
      simp; omega
theorem decL_len20 {n : Nat} (h : n < 18446744073709551616) : (Go.Lib.decDigits n).length ≤ 20 := decL_len 19 n (Nat.lt_trans h (by decide))
theorem dec_fig : ∀ (n : Nat), ∀ c ∈ Go.Lib.decDigits n, 48 ≤ c.toNat ∧ c.toNat ≤ 57
  | n, c, hc => by
    by_cases h : n < 10
    · rw [dec_small h] at hc
      simp at hc; subst hc; simp; omega
    · rw [dec_big h] at hc
      rcases List.mem_append.1 hc with h2 | h2
      · exact dec_fig (n / 10) c h2
      · simp at h2; subst h2; simp; omega
theorem dec_inj : ∀ (n m : Nat), Go.Lib.decDigits n = Go.Lib.decDigits m → n = m
  | n, m, h => by
    by_cases h1 : n < 10 <;> by_cases h2 : m < 10
    · rw [dec_small h1, dec_small h2] at h
      have := congrArg UInt8.toNat (List.cons.inj h).1
      simp at this; omega
    · rw [dec_small h1, dec_big h2] at h
      have := congrArg List.length h
      have h3 := List.length_pos_iff.2 (dec_ne (m / 10))
      rw [List.length_append] at this; simp only [List.length_cons, List.length_nil] at this; omega
    · rw [dec_big h1, dec_small h2] at h
      have := congrArg List.length h
      have h3 := List.length_pos_iff.2 (dec_ne (n / 10))
      rw [List.length_append] at this; simp only [List.length_cons, List.length_nil] at this; omega
    · rw [dec_big h1, dec_big h2] at h
      obtain ⟨h3, h4⟩ := List.append_inj' h rfl
      have h5 := dec_inj (n / 10) (m / 10) h3
      have := congrArg UInt8.toNat (List.cons.inj h4).1
      simp at this; omega
theorem ito_neg {n : Int} (h : n < 0) : Go.Lib.itoa n = 45 :: Go.Lib.decDigits n.natAbs := by unfold Go.Lib.itoa; rw [if_pos h]
theorem ito_pos {n : Int} (h : ¬ n < 0) : Go.Lib.itoa n = Go.Lib.decDigits n.toNat := by unfold Go.Lib.itoa; rw [if_neg h]
theorem ito_len {n : Int} (h : -9223372036854775808 ≤ n ∧ n ≤ 9223372036854775807) : 1 ≤ (Go.Lib.itoa n).length ∧ (Go.Lib.itoa n).length ≤ 21 := by
  by_cases h0 : n < 0
  · rw [ito_neg h0]; have := decL_len20 (n := n.natAbs) (by omega); simp; omega
  · rw [ito_pos h0]; have := decL_len20 (n := n.toNat) (by omega); have h3 := List.length_pos_iff.2 (dec_ne n.toNat); omega
theorem ito_inj {n m : Int} (h : Go.Lib.itoa n = Go.Lib.itoa m) : n = m := by
  have hm : ∀ k, (45 : UInt8) ∉ Go.Lib.decDigits k := fun k hk => by have := dec_fig k _ hk; simp at this
  by_cases h1 : n < 0 <;> by_cases h2 : m < 0
  · rw [ito_neg h1, ito_neg h2] at h
    have := dec_inj _ _ (List.cons.inj h).2; omega
  · rw [ito_neg h1, ito_pos h2] at h
    exact (hm m.toNat (by rw [← h]; simp)).elim
  · rw [ito_pos h1, ito_neg h2] at h
    exact (hm n.toNat (by rw [h]; simp)).elim
  · rw [ito_pos h1, ito_pos h2] at h
    have := dec_inj _ _ h; omega
theorem ito_fig {n : Int} : ∀ c ∈ Go.Lib.itoa n, c ≠ 46 ∧ (0 ≤ n → 48 ≤ c.toNat ∧ c.toNat ≤ 57) := fun c hc => by
  by_cases h : n < 0
  · rw [ito_neg h] at hc
    rcases List.mem_cons.1 hc with h2 | h2
    · subst h2; exact ⟨by decide, fun h3 => by omega⟩
    · have := dec_fig _ c h2
      exact ⟨fun e => by subst e; simp at this, fun _ => this⟩
  · rw [ito_pos h] at hc
    have := dec_fig _ c hc
    exact ⟨fun e => by subst e; simp at this, fun _ => this⟩
/-- a stamp's text -/
def txtB (a b : Int) : List UInt8 := Go.Lib.itoa a ++ 46 :: Go.Lib.itoa b
theorem txt_inj {a b c d : Int} : txtB a b = txtB c d ↔ a = c ∧ b = d := by
  constructor
  · intro h
    unfold txtB at h
    have key : ∀ (l1 l2 r1 r2 : List UInt8), (∀ x ∈ l1, x ≠ 46) → (∀ x ∈ l2, x ≠ 46) → l1 ++ 46 :: r1 = l2 ++ 46 :: r2 → l1 = l2 ∧ r1 = r2 := by
      intro l1
      induction l1 with
      | nil =>
        intro l2 r1 r2 _ h2 h
        cases l2 with
        | nil => exact ⟨rfl, (List.cons.inj h).2⟩
        | cons y l2 => exact (h2 y (by simp) ((List.cons.inj h).1.symm)).elim
      | cons x l1 ih =>
        intro l2 r1 r2 h1 h2 h
        cases l2 with
        | nil => exact (h1 x (by simp) ((List.cons.inj h).1)).elim
        | cons y l2 =>
          obtain ⟨h3, h4⟩ := List.cons.inj h
          obtain ⟨h5, h6⟩ := ih l2 r1 r2 (fun z hz => h1 z (by simp [hz])) (fun z hz => h2 z (by simp [hz])) h4
          exact ⟨by rw [h3, h5], h6⟩
    obtain ⟨h1, h2⟩ := key _ _ _ _ (fun x hx => (ito_fig x hx).1) (fun x hx => (ito_fig x hx).1) h
    exact ⟨ito_inj h1, ito_inj h2⟩
  · rintro ⟨rfl, rfl⟩; rfl
def dots (l : List UInt8) : Nat := (l.filter (fun c => c == 46)).length
theorem txt_dots (a b : Int) : dots (txtB a b) = 1 := by
  unfold dots txtB
  have h : ∀ n : Int, (Go.Lib.itoa n).filter (fun c => c == 46) = [] := fun n => by
    rw [List.filter_eq_nil_iff]
    intro c hc; simpa using (ito_fig c hc).1
  simp [h]
theorem dots_take {l : List UInt8} {i : Nat} (h : i < l.length) : dots (l.take (i + 1)) = dots (l.take i) + (if l[i] = 46 then 1 else 0) := by
  unfold dots
  rw [List.take_succ_eq_append_getElem h, List.filter_append, List.length_append]
  congr 1
  by_cases h2 : l[i] = 46 <;> simp [h2]
theorem txt_fig {a b : Int} (h : 0 ≤ a ∧ 0 ≤ b) : ∀ c ∈ txtB a b, c = 46 ∨ 48 ≤ c.toNat ∧ c.toNat ≤ 57 := fun c hc => by
  unfold txtB at hc
  rcases List.mem_append.1 hc with h2 | h2
  · exact .inr ((ito_fig c h2).2 h.1)
  · rcases List.mem_cons.1 h2 with h3 | h3
    · exact .inl h3
    · exact .inr ((ito_fig c h3).2 h.2)
theorem txt_len {a b : Int} (ha : -9223372036854775808 ≤ a ∧ a ≤ 9223372036854775807) (hb : -9223372036854775808 ≤ b ∧ b ≤ 9223372036854775807) : 3 ≤ (txtB a b).length ∧ (txtB a b).length ≤ 50 := by
  have := ito_len ha
  have := ito_len hb
  unfold txtB; simp; omega
theorem S_cat (x y : List UInt8) : S x ++ S y = S (x ++ y) := by
  apply ByteArray.ext
  simp [V.S, ByteArray.data_append]
theorem S_nil {x : List UInt8} : S x = ⟨#[]⟩ ↔ x = [] := V.S_lit (b := [])
theorem fig_at : ∀ (d : Nat), d < 10 → ((([48, 49, 50, 51, 52, 53, 54, 55, 56, 57] : List UInt8).drop d).take 1) = [UInt8.ofNat (48 + d)] := by decide


/-- the table of powers is there -/
structure Tb (w : World) : Prop where
  t : Go.Lib.TabIs Tryd.prog w "internal/strconv.uint64pow10" .u64 Go.Lib.pow10Tab
theorem Tb.gr {w w' : World} (h : Tb w) (f : Gr w w') : Tb w' := by
  constructor
  have h1 := h.t
  unfold Go.Lib.TabIs World.var? at h1 ⊢
  cases hg : Tryd.prog.globalNamed "internal/strconv.uint64pow10" with
  | none => rw [hg] at h1; cases h1
  | some i =>
    rw [hg] at h1
    simp only [Option.bind_some] at h1 ⊢
    have hlt : i < w.heap.size := by
      rcases Nat.lt_or_ge i w.heap.size with h2 | h2
      · exact h2
      · rw [Array.getElem?_eq_none h2] at h1; cases h1
    rw [f.block i hlt (by simp)]; exact h1
theorem Tb.at0 {w : World} (h : Tb w) : 0 < w.heap.size := by
  have h1 := h.t
  unfold Go.Lib.TabIs World.var? at h1
  rw [show Tryd.prog.globalNamed "internal/strconv.uint64pow10" = some 0 by kernel_rfl] at h1
  simp only [Option.bind_some] at h1
  rcases Nat.lt_or_ge 0 w.heap.size with h2 | h2
  · exact h2
  · rw [Array.getElem?_eq_none h2] at h1; cases h1
theorem Tb.mv1 {w w' : World} {i : Nat} (h : Tb w) (f : Fr [i] w w') (hn : i ≠ 0 ∧ ¬ False) : Tb w' := by
  constructor
  have h0 := h.at0
  have h1 := h.t
  unfold Go.Lib.TabIs World.var? at h1 ⊢
  rw [show Tryd.prog.globalNamed "internal/strconv.uint64pow10" = some 0 by kernel_rfl] at h1 ⊢
  simp only [Option.bind_some] at h1 ⊢
  rw [f.block 0 h0 (by simpa using fun e => hn.1 e.symm)]; exact h1
theorem gr_grow (w : World) (k : Nat) (os : Array Obj) : Gr w (Go.Sort.grow (w.drewN k) os) :=
  ⟨rfl, rfl, rfl, by simp [Go.Sort.grow, World.drewN], fun j hj _ => by simp [Go.Sort.grow, World.drewN, Array.getElem?_append_left hj]⟩
theorem itoa_spec {w : World} {n : Int} (hn : -9223372036854775808 ≤ n ∧ n ≤ 9223372036854775807) (FT : Tb w) : Meets Tryd.prog 30 [.int .i64 n] w fun r w' => r = .string (S (Go.Lib.itoa n)) ∧ Gr w w' :=
  ⟨V.callable Tryd.func30 rfl (by decide), (Any.strconv_Itoa laysItoa n hn.1 hn.2 w FT.t).mono (by rintro e w' ⟨rfl, k, os, rfl⟩; exact ⟨_, rfl, rfl, gr_grow _ _ _⟩)⟩
theorem tab3 {P : Program} {W : World} {name : String} {k : IntKind} {zs : List Int} {a b : String × DataW Unit} {rest : List (String × DataW Unit)} {i t e : Nat} {n : Nat}
    (hg : P.globalNamed name = some i) (hty : (P.globals[i]?).map (·.type) = some t) (ht : P.underlying t = some (.array n e)) (he : P.underlying e = some (.int k)) (hce : P.cellsOf e = 1) (hct : P.cellsOf t = n)
    (h : laidMet P (a :: b :: (name, Go.Lib.tabData k zs) :: rest) W) : Go.Lib.TabIs P W name k zs := by
  obtain ⟨ps, ⟨_, _, _, _, _, _, _, _, _, _, ⟨_, _, _, _, _, _, _, _, _, _, ⟨g', t', cs, fuel, p, q, hg', ht', hvar, hd, _, _⟩, _⟩, _⟩, _⟩ := h
  obtain rfl := Option.some.inj (hg.symm.trans hg')
  obtain rfl := Option.some.inj (hty.symm.trans ht')
  unfold Go.Lib.TabIs
  rw [hvar, ← Go.Lib.cells_of_tab ht he hce hct hd]

set_option maxHeartbeats 400000 in
set_option maxRecDepth 10000 in
theorem text_spec {w : World}  {a : Int} {b : Int} (ha : -9223372036854775808 ≤ a ∧ a ≤ 9223372036854775807) (hb : -9223372036854775808 ≤ b ∧ b ≤ 9223372036854775807) (FT : Tb w) :
    Meets Tryd.prog 9 [.agg #[.int .i64 a, .int .i64 b]] w fun r w' => r = .string (S (txtB a b)) ∧ Gr w w' := by
 have HG := V.Fr.refl [] w
 refine V.enter (n := 11) Tryd.func9 rfl rfl (by decide) rfl ?_
 refine V.seq ?_
 refine V.region ?_
 refine V.box rfl rfl rfl rfl ?_
 rintro k1 w3 s5 s6 G4 Fk2
 have z7 := V.Fr.size G4
 try replace FT := FT.gr G4
 replace HG := HG.grow G4
 clear G4
 try simp only [V.cellsL, V.spliceL] at Fk2
 refine V.run T_ok 1 rfl ?_
 refine V.nil ?_
 refine V.tN ?_
 refine V.seq ?_
 have hla := ito_len (n := a) (by omega)
 have hlb := ito_len (n := b) (by omega)
 refine V.drawQ mixed (by kernel_rfl) ?_
 refine V.qrun T_ok 1 rfl ?_
 refine V.qloadO T_ok Fk2 rfl rfl rfl rfl rfl ?_
 refine V.qcall V.clo (fun w1 g => (itoa_spec (n := a) (by omega) (FT.gr g))) rfl rfl rfl ?_
 refine V.qscat rfl rfl rfl rfl rfl (by (try rw [V.S_size]); (try rw [V.S_size]); (try simp only [List.length_append, List.length_cons, List.length_nil]); first | omega | (have e1 : (⟨#[46]⟩ : ByteArray).size = 1 := rfl; omega) | (have e1 : (⟨#[45]⟩ : ByteArray).size = 1 := rfl; omega)) ?_
 rw [show S (Go.Lib.itoa a) ++ (⟨#[46]⟩ : ByteArray) = S (Go.Lib.itoa a ++ [46]) from S_cat _ _]
 refine V.qrun T_ok 1 rfl ?_
 refine V.qloadO T_ok Fk2 rfl rfl rfl rfl rfl ?_
 refine V.qcall V.clo (fun w1 g => (itoa_spec (n := b) (by omega) (FT.gr g))) rfl rfl rfl ?_
 refine V.qscat rfl rfl rfl rfl rfl (by (try rw [V.S_size]); (try rw [V.S_size]); (try simp only [List.length_append, List.length_cons, List.length_nil]); first | omega | (have e1 : (⟨#[46]⟩ : ByteArray).size = 1 := rfl; omega) | (have e1 : (⟨#[45]⟩ : ByteArray).size = 1 := rfl; omega)) ?_
 rw [show S (Go.Lib.itoa a ++ [46]) ++ S (Go.Lib.itoa b) = S ((Go.Lib.itoa a ++ [46]) ++ Go.Lib.itoa b) from S_cat _ _]
 refine V.qrun T_ok 1 rfl ?_
 refine V.qnil ?_
 rintro w8 G9
 have z10 := V.Fr.size G9
 try replace FT := FT.gr G9
 try replace Fk2 := Fk2.gr G9
 replace HG := HG.grow G9
 clear G9
 refine V.tN ?_
 refine V.ret ?_
 refine V.done rfl ?_
 rw [show (Go.Lib.itoa a ++ [46]) ++ Go.Lib.itoa b = txtB a b by unfold txtB; simp]
 exact ⟨(by first | rfl | simp only [List.length_set]), HG⟩

set_option maxHeartbeats 400000 in
set_option maxRecDepth 10000 in
theorem figures_spec {w : World}  {n : Int} (hn : 0 ≤ n ∧ n < 18446744073709551616) :
    Meets Tryd.prog 42 [.int .u64 n] w fun r w' => r = .string (S (Go.Lib.decDigits n.toNat)) ∧ w = w' := by
 refine V.enter (n := 21) Tryd.func42 rfl rfl (by decide) rfl ?_
 refine V.seq ?_
 refine V.region ?_
 refine V.run T_ok 1 rfl ?_
 refine V.nil ?_
 refine V.tN ?_
 refine V.seq ?_
 refine V.region ?_
 refine V.run T_ok 1 rfl ?_
 refine V.nil ?_
 refine V.tN ?_
 refine V.seq ?_
 refine V.block ?_
 refine V.loopM (fun m e v2 => w = v2 ∧ ∃ (n1 : Nat) (acc : List UInt8) , m = n1 + (1 - acc.length) ∧ FG n1 acc = Go.Lib.decDigits n.toNat ∧ n1 < 18446744073709551616 ∧ e 0 = .int .u64 (n1 : Int) ∧ e 3 = .string (S acc)) ?_ ?_
 ·
  exact ⟨_, rfl, (n.toNat), ([]), rfl, (FG_zero), ((by omega)), (congrArg (Value.int .u64) (Int.toNat_of_nonneg hn.1).symm), rfl⟩
 rintro _ e v2 ⟨rfl, n1, acc, rfl, hfg, hn1, he0_0, he0_3⟩
 refine V.knownC (t := 0) he0_0 ?_
 refine V.knownC (t := 3) he0_3 ?_
 refine V.seq ?_
 refine V.seq ?_
 refine V.region ?_
 refine V.run T_ok 3 rfl ?_
 refine V.orG T_ok 2 2 6 rfl rfl rfl rfl rfl rfl rfl rfl ?_
 refine V.nil ?_
 refine V.tN ?_
 refine V.condT rfl (fun h2 => ?_) (fun h2 => ?_)
 ·
  try replace h2 := V.dec h2
  try simp only [V.mk0, V.mk1, V.mk2, V.mk3] at h2
  refine V.skip ?_
  refine V.tN ?_
  refine V.block ?_
  refine V.seq ?_
  have hac := FG_len (n := n1) (acc := acc)
  have hd2 := decL_len20 (n := n.toNat) (by omega)
  have hac2 : acc.length ≤ 20 := by rw [hfg] at hac; omega
  refine V.region ?_
  refine V.run T_ok 1 rfl ?_
  refine V.run T_ok 1 rfl ?_
  rw [show Int.tmod (n1 : Int) 10 = ((n1 % 10 : Nat) : Int) from rfl]
  refine V.run T_ok 1 rfl ?_
  refine V.run T_ok 1 rfl ?_
  rw [show Int.tmod (n1 : Int) 10 = ((n1 % 10 : Nat) : Int) from rfl]
  refine V.run T_ok 1 rfl ?_
  rw [V.wrap_u64 (x := ((n1 % 10 : Nat) : Int) + 1) (by omega) (by omega)]
  refine V.scut Tryd.underlying9 rfl rfl rfl rfl rfl rfl rfl rfl (by omega) (by omega) (by show ((n1 % 10 : Nat) : Int) + 1 ≤ 10; omega) ?_
  rw [show (((⟨#[48, 49, 50, 51, 52, 53, 54, 55, 56, 57]⟩ : ByteArray).data.toList.drop (((n1 % 10 : Nat) : Int)).toNat).take ((((n1 % 10 : Nat) : Int) + 1) - (((n1 % 10 : Nat) : Int))).toNat) = [UInt8.ofNat (48 + n1 % 10)] by rw [show (((n1 % 10 : Nat) : Int)).toNat = n1 % 10 by omega, show ((((n1 % 10 : Nat) : Int) + 1) - (((n1 % 10 : Nat) : Int))).toNat = 1 by omega]; exact fig_at _ (Nat.mod_lt _ (by decide))]
  refine V.run T_ok 1 rfl ?_
  refine V.scat rfl rfl rfl rfl rfl (by (try rw [V.S_size]); (try rw [V.S_size]); (try simp only [List.length_append, List.length_cons, List.length_nil]); first | omega | (have e1 : (⟨#[46]⟩ : ByteArray).size = 1 := rfl; omega) | (have e1 : (⟨#[45]⟩ : ByteArray).size = 1 := rfl; omega)) ?_
  rw [show S [UInt8.ofNat (48 + n1 % 10)] ++ S acc = S (UInt8.ofNat (48 + n1 % 10) :: acc) from S_cat _ _]
  refine V.run T_ok 1 rfl ?_
  refine V.nil ?_
  refine V.tN ?_
  refine V.region ?_
  refine V.run T_ok 1 rfl ?_
  refine V.run T_ok 1 rfl ?_
  rw [show Int.tdiv (n1 : Int) 10 = ((n1 / 10 : Nat) : Int) from rfl, V.wrap_u64 (x := ((n1 / 10 : Nat) : Int)) (by omega) (by omega)]
  refine V.run T_ok 1 rfl ?_
  refine V.nil ?_
  refine V.bN ?_
  refine V.tN ?_
  have hor : acc = [] ∨ 0 < n1 := by first | exact .inl (S_nil.1 (by assumption)) | exact .inl (by assumption) | exact .inr (by omega) | (rcases h2 with h | h; exact .inl h; exact .inr (by omega)) | grind
  have haz : acc.length = 0 ∨ 0 < n1 := by rcases hor with h | h; exact .inl (by rw [h]; rfl); exact .inr h
  exact ⟨_, ((by simp only [List.length_cons]; omega)), rfl, (n1 / 10), (UInt8.ofNat (48 + n1 % 10) :: acc), rfl, ((by rw [FG_step hor]; exact hfg)), ((by omega)), rfl, rfl⟩
 ·
  try replace h2 := V.dec h2
  try simp only [V.mk0, V.mk1, V.mk2, V.mk3] at h2
  refine V.exit ?_
  refine V.tX ?_
  refine V.tX ?_
  refine V.bE ?_
  refine V.tN ?_
  refine V.seq ?_
  refine V.region ?_
  refine V.run T_ok 2 rfl ?_
  refine V.nil ?_
  refine V.tN ?_
  refine V.ret ?_
  refine V.done rfl ?_
  have hend : ¬ (acc = [] ∨ 0 < n1) := by rintro (h | h); exact h2.1 h; omega
  rw [← hfg, FG_end hend]
  exact ⟨(by first | rfl | simp only [List.length_set]), rfl⟩

set_option maxHeartbeats 400000 in
set_option maxRecDepth 10000 in
theorem digits_spec {w : World}  {n : Int} (hn : -9223372036854775808 ≤ n ∧ n ≤ 9223372036854775807) :
    Meets Tryd.prog 34 [.int .i64 n] w fun r w' => r = .string (S (Go.Lib.itoa n)) ∧ w = w' := by
 refine V.enter (n := 15) Tryd.func34 rfl rfl (by decide) rfl ?_
 refine V.seq ?_
 refine V.region ?_
 refine V.run T_ok 1 rfl ?_
 refine V.nil ?_
 refine V.tN ?_
 refine V.seq ?_
 refine V.seq ?_
 refine V.region ?_
 refine V.run T_ok 2 rfl ?_
 refine V.nil ?_
 refine V.tN ?_
 refine V.condT rfl (fun h1 => ?_) (fun h1 => ?_)
 ·
  try replace h1 := V.dec h1
  try simp only [V.mk0, V.mk1, V.mk2, V.mk3] at h1
  refine V.seq ?_
  have hdl := decL_len20 (n := ((0 - (n + 1)) + 1).toNat) (by omega)
  refine V.region ?_
  refine V.run T_ok 1 rfl ?_
  refine V.addN rfl rfl rfl rfl rfl (by first | omega | (simp only [List.length_take, List.length_drop, List.length_append, List.length_cons, List.length_nil, List.length_replicate, List.length_set, V.length_data, V.S_size]; omega)) (by first | omega | (simp only [List.length_take, List.length_drop, List.length_append, List.length_cons, List.length_nil, List.length_replicate, List.length_set, V.length_data, V.S_size]; omega)) ?_
  refine V.run T_ok 1 rfl ?_
  rw [V.wrap_in (x := 0 - (n + 1)) (by omega) (by omega)]
  first | refine V.cnvN T_ok rfl rfl rfl rfl rfl rfl (V.wrap_u64 (by omega) (by omega)) ?_ | refine V.run T_ok 1 rfl ?_
  refine V.run T_ok 1 rfl ?_
  rw [V.wrap_u64 (x := (0 - (n + 1)) + 1) (by omega) (by omega)]
  refine V.call (figures_spec (n := ((0 - (n + 1)) + 1)) (by omega)) rfl rfl rfl ?_
  rintro _ w_ ⟨rfl, rfl⟩
  refine V.scat rfl rfl rfl rfl rfl (by (try rw [V.S_size]); (try rw [V.S_size]); (try simp only [List.length_append, List.length_cons, List.length_nil]); first | omega | (have e1 : (⟨#[46]⟩ : ByteArray).size = 1 := rfl; omega) | (have e1 : (⟨#[45]⟩ : ByteArray).size = 1 := rfl; omega)) ?_
  refine V.run T_ok 1 rfl ?_
  refine V.nil ?_
  refine V.tN ?_
  refine V.ret ?_
  refine V.tR ?_
  refine V.done rfl ?_
  rw [show Go.Lib.itoa n = [45] ++ Go.Lib.decDigits ((0 - (n + 1)) + 1).toNat by rw [ito_neg (by omega), show n.natAbs = ((0 - (n + 1)) + 1).toNat by omega]; rfl, ← S_cat]
  exact ⟨(by first | rfl | simp only [List.length_set]), rfl⟩
 ·
  try replace h1 := V.dec h1
  try simp only [V.mk0, V.mk1, V.mk2, V.mk3] at h1
  refine V.skip ?_
  refine V.tN ?_
  refine V.seq ?_
  refine V.region ?_
  refine V.run T_ok 1 rfl ?_
  first | refine V.cnvN T_ok rfl rfl rfl rfl rfl rfl (V.wrap_u64 (by omega) (by omega)) ?_ | refine V.run T_ok 1 rfl ?_
  refine V.call (figures_spec (n := n) (by omega)) rfl rfl rfl ?_
  rintro _ w_ ⟨rfl, rfl⟩
  refine V.run T_ok 1 rfl ?_
  refine V.nil ?_
  refine V.tN ?_
  refine V.ret ?_
  refine V.done rfl ?_
  rw [ito_pos (by omega)]
  exact ⟨(by first | rfl | simp only [List.length_set]), rfl⟩

set_option maxHeartbeats 400000 in
set_option maxRecDepth 10000 in
theorem rtext_spec {w : World}  {a : Int} {b : Int} (ha : -9223372036854775808 ≤ a ∧ a ≤ 9223372036854775807) (hb : -9223372036854775808 ≤ b ∧ b ≤ 9223372036854775807) :
    Meets Tryd.prog 22 [.agg #[.int .i64 a, .int .i64 b]] w fun r w' => r = .string (S (txtB a b)) ∧ Gr w w' := by
 have HG := V.Fr.refl [] w
 refine V.enter (n := 11) Tryd.func22 rfl rfl (by decide) rfl ?_
 refine V.seq ?_
 refine V.region ?_
 refine V.box rfl rfl rfl rfl ?_
 rintro k1 w3 s5 s6 G4 Fk2
 have z7 := V.Fr.size G4
 replace HG := HG.grow G4
 clear G4
 try simp only [V.cellsL, V.spliceL] at Fk2
 refine V.run T_ok 1 rfl ?_
 refine V.nil ?_
 refine V.tN ?_
 refine V.seq ?_
 have hla := ito_len (n := a) (by omega)
 have hlb := ito_len (n := b) (by omega)
 refine V.drawQ mixed (by kernel_rfl) ?_
 refine V.qrun T_ok 1 rfl ?_
 refine V.qloadO T_ok Fk2 rfl rfl rfl rfl rfl ?_
 refine V.qcall V.clo (fun w1 g => V.Meets.gr' (digits_spec (n := a) (by omega))) rfl rfl rfl ?_
 refine V.qscat rfl rfl rfl rfl rfl (by (try rw [V.S_size]); (try rw [V.S_size]); (try simp only [List.length_append, List.length_cons, List.length_nil]); first | omega | (have e1 : (⟨#[46]⟩ : ByteArray).size = 1 := rfl; omega) | (have e1 : (⟨#[45]⟩ : ByteArray).size = 1 := rfl; omega)) ?_
 rw [show S (Go.Lib.itoa a) ++ (⟨#[46]⟩ : ByteArray) = S (Go.Lib.itoa a ++ [46]) from S_cat _ _]
 refine V.qrun T_ok 1 rfl ?_
 refine V.qloadO T_ok Fk2 rfl rfl rfl rfl rfl ?_
 refine V.qcall V.clo (fun w1 g => V.Meets.gr' (digits_spec (n := b) (by omega))) rfl rfl rfl ?_
 refine V.qscat rfl rfl rfl rfl rfl (by (try rw [V.S_size]); (try rw [V.S_size]); (try simp only [List.length_append, List.length_cons, List.length_nil]); first | omega | (have e1 : (⟨#[46]⟩ : ByteArray).size = 1 := rfl; omega) | (have e1 : (⟨#[45]⟩ : ByteArray).size = 1 := rfl; omega)) ?_
 rw [show S (Go.Lib.itoa a ++ [46]) ++ S (Go.Lib.itoa b) = S ((Go.Lib.itoa a ++ [46]) ++ Go.Lib.itoa b) from S_cat _ _]
 refine V.qrun T_ok 1 rfl ?_
 refine V.qnil ?_
 rintro w8 G9
 have z10 := V.Fr.size G9
 try replace Fk2 := Fk2.gr G9
 replace HG := HG.grow G9
 clear G9
 refine V.tN ?_
 refine V.ret ?_
 refine V.done rfl ?_
 rw [show (Go.Lib.itoa a ++ [46]) ++ Go.Lib.itoa b = txtB a b by unfold txtB; simp]
 exact ⟨(by first | rfl | simp only [List.length_set]), HG⟩

end Go.Proofs.YtbpfojlnndkaoaaDoor
