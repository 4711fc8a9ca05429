/- Proved here: walks: what functions of this seat's program return and what they leave of memory, each as a contract. Conditions: stated at each theorem. -/
import Derived.Test.YtnbijpijbhkcpaaMjn3
namespace Go.Proofs.Ytnbijpijbhkcpaa
set_option linter.unusedVariables false
set_option linter.unusedSimpArgs false
open Go
open V (Bytes Meets Env Sl Own Gr Fr Cells S)
/-! ### The sum finds what is turned within 32 bits -/
theorem crc1_xor (a b : BitVec 32) : crc1 (a ^^^ b) = crc1 a ^^^ crc1 b := by
  rw [crc1_lsb, crc1_lsb, crc1_lsb, BitVec.getLsbD_xor, shr_xor]
  generalize a >>> 1 = x
  generalize b >>> 1 = y
  cases a.getLsbD 0 <;> cases b.getLsbD 0 <;> simp <;> ext i <;> simp <;> (generalize x[i] = p; generalize y[i] = q; generalize (poly)[i] = r; cases p <;> cases q <;> cases r <;> rfl)
theorem crc1_zero : crc1 0#32 = 0#32 := by decide +kernel
theorem crc1_bit (a : BitVec 32) (i : Nat) (hi : i < 32) : (crc1 a).getLsbD i = (a.getLsbD (i + 1) ^^ (a.getLsbD 0 && poly.getLsbD i)) := by
  rw [crc1_lsb]
  cases h : a.getLsbD 0 <;> simp [hi, Nat.add_comm]
theorem crc1_inj0 {a : BitVec 32} (h : crc1 a = 0#32) : a = 0#32 := by
  have h0 : a.getLsbD 0 = false := by
    have := crc1_bit a 31 (by decide)
    rw [h] at this
    have hp : poly.getLsbD 31 = true := by decide +kernel
    have h32 : a.getLsbD 32 = false := BitVec.getLsbD_of_ge a 32 (by decide)
    rw [h32, hp] at this
    simpa using this.symm
  apply BitVec.eq_of_getLsbD_eq
  intro i hi
  rw [BitVec.getLsbD_zero]
  cases i with
  | zero => exact h0
  | succ i =>
    have := crc1_bit a i (by omega)
    rw [h, h0] at this
    simpa using this.symm
theorem crc1_inj {a b : BitVec 32} (h : crc1 a = crc1 b) : a = b := by
  have h1 : crc1 (a ^^^ b) = 0#32 := by rw [crc1_xor, h, BitVec.xor_self]
  exact BitVec.xor_eq_zero_iff.1 (crc1_inj0 h1)
theorem crcK_succ (n : Nat) (a : BitVec 32) : crcK (n + 1) a = crc1 (crcK n a) := by rw [crcK]
theorem crcK_succ' : ∀ (n : Nat) (a : BitVec 32), crcK (n + 1) a = crcK n (crc1 a)
  | 0, a => by rw [crcK_succ, crcK, crcK]
  | n + 1, a => by rw [crcK_succ, crcK_succ' n a, crcK_succ]
theorem crcK_inj {a b : BitVec 32} : ∀ {n : Nat}, crcK n a = crcK n b → a = b
  | 0, h => by simpa [crcK] using h
  | n + 1, h => crcK_inj (crc1_inj (by rw [crcK_succ, crcK_succ] at h; exact h))
def b2w (b : Bool) : BitVec 32 := if b then 1#32 else 0#32
def step1 (s : BitVec 32) (b : Bool) : BitVec 32 := crc1 (s ^^^ b2w b)
def ser (s : BitVec 32) (l : List Bool) : BitVec 32 := l.foldl step1 s
def wordB : List Bool → BitVec 32
  | [] => 0#32
  | b :: u => b2w b ^^^ (wordB u <<< 1)
theorem b2w_bit (b : Bool) (i : Nat) : (b2w b).getLsbD i = (decide (i = 0) && b) := by
  cases b
  · simp [b2w]
  · by_cases h : i = 0 <;> simp [b2w, BitVec.getLsbD_one, h]
theorem wordB_bit : ∀ (u : List Bool) (i : Nat), i < 32 → (wordB u).getLsbD i = u.getD i false
  | [], i, hi => by simp [wordB]
  | b :: u, i, hi => by
    rw [wordB, BitVec.getLsbD_xor, b2w_bit, BitVec.getLsbD_shiftLeft]
    cases i with
    | zero => simp
    | succ i => rw [Nat.add_sub_cancel, wordB_bit u i (by omega)]; simp [hi]
theorem crc1_shl (z : BitVec 32) (h : z.getLsbD 31 = false) : crc1 (z <<< 1) = z := by
  apply BitVec.eq_of_getLsbD_eq
  intro i hi
  rw [crc1_bit _ _ hi, BitVec.getLsbD_shiftLeft, BitVec.getLsbD_shiftLeft]
  by_cases h31 : i = 31
  · subst h31; simp; rw [← BitVec.getLsbD_eq_getElem]; exact h
  · have : i + 1 < 32 := by omega
    simp [this]
theorem ser_word : ∀ (u : List Bool) (s : BitVec 32), u.length ≤ 32 → ser s u = crcK u.length (s ^^^ wordB u)
  | [], s, _ => by simp [ser, wordB, crcK]
  | b :: u, s, h => by
    simp only [List.length_cons] at h
    have h31 : (wordB u).getLsbD 31 = false := by
      rw [wordB_bit u 31 (by decide), List.getD_eq_getElem?_getD, List.getElem?_eq_none (by omega)]; rfl
    have e1 : ser s (b :: u) = ser (step1 s b) u := rfl
    rw [e1, ser_word u _ (by omega), List.length_cons, crcK_succ', wordB, ← BitVec.xor_assoc, crc1_xor, crc1_shl _ h31]; rfl
theorem ser_inj : ∀ (t : List Bool) {a b : BitVec 32}, ser a t = ser b t → a = b
  | [], a, b, h => h
  | x :: t, a, b, h => by
    have := crc1_inj (ser_inj t (a := step1 a x) (b := step1 b x) h)
    have h2 := congrArg (· ^^^ b2w x) this
    simpa [BitVec.xor_assoc] using h2
theorem ser_append (s : BitVec 32) (a b : List Bool) : ser s (a ++ b) = ser (ser s a) b := by simp [ser]
theorem ser_window {p u u' t : List Bool} {s : BitVec 32} (hl : u.length = u'.length) (h32 : u.length ≤ 32) (h : ser s (p ++ u ++ t) = ser s (p ++ u' ++ t)) : u = u' := by
  rw [ser_append, ser_append, ser_append, ser_append] at h
  have h1 := ser_inj t h
  rw [ser_word u _ h32, ser_word u' _ (by omega), hl] at h1
  have h2 := crcK_inj h1
  have h3 : wordB u = wordB u' := by
    have := congrArg (ser s p ^^^ ·) h2
    simpa [← BitVec.xor_assoc] using this
  apply List.ext_getElem hl
  intro i h1 h2
  have e1 := wordB_bit u i (by omega)
  have e2 := wordB_bit u' i (by omega)
  rw [h3, e2] at e1
  rw [List.getD_eq_getElem?_getD, List.getD_eq_getElem?_getD, List.getElem?_eq_getElem h1, List.getElem?_eq_getElem h2] at e1
  simpa using e1.symm
/-! bytes as bits -/
def bits8 (c : UInt8) : List Bool := (List.range 8).map fun k => c.toNat.testBit k
def bitsL (l : List UInt8) : List Bool := l.flatMap bits8
theorem bits8_len (c : UInt8) : (bits8 c).length = 8 := by simp [bits8]
theorem bitsL_len : ∀ (l : List UInt8), (bitsL l).length = 8 * l.length
  | [] => rfl
  | c :: l => by
    have := bitsL_len l
    simp only [bitsL, List.flatMap_cons, List.length_append, bits8_len, List.length_cons] at this ⊢
    omega
theorem bOf_bit (c : UInt8) (k : Nat) : (bOf c >>> k).getLsbD 0 = c.toNat.testBit k := by
  rw [BitVec.getLsbD_ushiftRight, BitVec.getLsbD, bOf_toNat, Nat.add_zero]
theorem refS_step (s : BitVec 32) (c : UInt8) (k : Nat) : refS s c (k + 1) = step1 (refS s c k) (c.toNat.testBit k) := by
  have h1 : (b2w (c.toNat.testBit k)) >>> 1 = 0#32 := by cases c.toNat.testBit k <;> decide
  rw [refS_next, bOf_bit, step1, crc1_lsb, BitVec.getLsbD_xor, b2w_bit, shr_xor, h1, BitVec.xor_zero]
  cases (refS s c k).getLsbD 0 <;> cases c.toNat.testBit k <;> rfl
theorem ser_byte (s : BitVec 32) (c : UInt8) : crcB s c = ser s (bits8 c) := by
  have h : ∀ k, refS s c k = ser s ((List.range k).map fun k => c.toNat.testBit k) := by
    intro k
    induction k with
    | zero => rw [refS_zero]; rfl
    | succ k ih => rw [refS_step, ih, List.range_succ, List.map_append, ser_append]; rfl
  have h8 := h 8
  rw [refS_eight] at h8
  exact h8
theorem ser_bytes (s : BitVec 32) : ∀ (l : List UInt8), l.foldl crcB s = ser s (bitsL l) := by
  intro l
  induction l generalizing s with
  | nil => rfl
  | cons c l ih => simp only [List.foldl_cons, bitsL, List.flatMap_cons, ser_append]; rw [ser_byte, ih]; rfl
theorem crcL_bits (l : List UInt8) : crcL l = ser 0xFFFFFFFF#32 (bitsL l) := by
  unfold crcL; exact ser_bytes _ l
theorem sum_window {l l' : List UInt8} {p u u' t : List Bool} (h1 : bitsL l = p ++ u ++ t) (h2 : bitsL l' = p ++ u' ++ t) (hl : u.length = u'.length) (h32 : u.length ≤ 32) (h : sumB l = sumB l') : u = u' := by
  have h3 : crcL l = crcL l' := by
    unfold sumB at h
    have := congrArg (~~~ ·) h
    simpa using this
  rw [crcL_bits, crcL_bits, h1, h2] at h3
  exact ser_window hl h32 h3
theorem bits8_get (c : UInt8) (k : Nat) (hk : k < 8) : (bits8 c)[k]? = some (c.toNat.testBit k) := by
  simp [bits8, hk]
theorem bitsL_get : ∀ (l : List UInt8) (k : Nat), (bitsL l)[k]? = (l[k / 8]?).map fun c => c.toNat.testBit (k % 8)
  | [], k => by simp [bitsL]
  | c :: l, k => by
    simp only [bitsL, List.flatMap_cons]
    by_cases hk : k < 8
    · rw [List.getElem?_append_left (by rw [bits8_len]; exact hk), bits8_get c k hk, Nat.div_eq_of_lt hk, Nat.mod_eq_of_lt hk]; rfl
    · rw [List.getElem?_append_right (by rw [bits8_len]; omega), bits8_len]
      have := bitsL_get l (k - 8)
      simp only [bitsL] at this
      rw [this, show k / 8 = (k - 8) / 8 + 1 by omega, show k % 8 = (k - 8) % 8 by omega, List.getElem?_cons_succ]
theorem bitsL_inj {l l' : List UInt8} (hl : l.length = l'.length) (h : bitsL l = bitsL l') : l = l' := by
  apply List.ext_getElem hl
  intro i h1 h2
  apply UInt8.toNat_inj.1
  apply Nat.eq_of_testBit_eq
  intro j
  by_cases hj : j < 8
  · have e1 := bitsL_get l (8 * i + j)
    have e2 := bitsL_get l' (8 * i + j)
    rw [h, e2, show (8 * i + j) / 8 = i by omega, show (8 * i + j) % 8 = j by omega, List.getElem?_eq_getElem h1, List.getElem?_eq_getElem h2] at e1
    simpa using e1.symm
  · have hp : 2 ^ 8 ≤ 2 ^ j := Nat.pow_le_pow_right (by decide) (by omega)
    have l1 := l[i].toNat_lt
    have l2 := l'[i].toNat_lt
    rw [Nat.testBit_lt_two_pow (by omega), Nat.testBit_lt_two_pow (by omega)]
/-- bytes of which only bits from a on, 32 of them, differ, have another sum -/
theorem sum_burst {l l' : List UInt8} (a : Nat) (hl : l.length = l'.length) (h : ∀ k, ¬ (a ≤ k ∧ k < a + 32) → (bitsL l)[k]? = (bitsL l')[k]?) (hs : sumB l = sumB l') : l = l' := by
  have cut : ∀ b : List Bool, b = b.take a ++ (b.drop a).take 32 ++ b.drop (a + 32) := by
    intro b
    rw [List.append_assoc, ← List.drop_drop, List.take_append_drop, List.take_append_drop]
  have hlen : (bitsL l).length = (bitsL l').length := by rw [bitsL_len, bitsL_len, hl]
  have hp : (bitsL l).take a = (bitsL l').take a := by
    apply List.ext_getElem?
    intro k
    rw [List.getElem?_take, List.getElem?_take]
    split
    · exact h k (by omega)
    · rfl
  have ht : (bitsL l).drop (a + 32) = (bitsL l').drop (a + 32) := by
    apply List.ext_getElem?
    intro k
    rw [List.getElem?_drop, List.getElem?_drop]
    exact h _ (by omega)
  have h1 := cut (bitsL l)
  have h2 := cut (bitsL l')
  rw [← hp, ← ht] at h2
  have hu := sum_window h1 h2 (by simp [hlen]) (by simp; omega) hs
  apply bitsL_inj hl
  rw [h1, h2, hu]
/-! one bit turned -/
def flip1 (l : List UInt8) (k : Nat) : List UInt8 := l.set (k / 8) (l.getD (k / 8) 0 ^^^ UInt8.ofNat (2 ^ (k % 8)))
theorem flip1_len (l : List UInt8) (k : Nat) : (flip1 l k).length = l.length := by simp [flip1]
theorem flip1_bits (l : List UInt8) (k j : Nat) (hk : k < 8 * l.length) : (bitsL (flip1 l k))[j]? = if j = k then ((bitsL l)[j]?).map (!·) else (bitsL l)[j]? := by
  rw [bitsL_get, bitsL_get, flip1, List.getElem?_set]
  by_cases hb : k / 8 = j / 8
  · have hlt : j / 8 < l.length := by omega
    rw [if_pos hb, if_pos (show k / 8 < l.length by omega), List.getD_eq_getElem?_getD, hb, List.getElem?_eq_getElem hlt]
    simp only [Option.getD_some, Option.map_some]
    have hx : (l[j / 8] ^^^ UInt8.ofNat (2 ^ (k % 8))).toNat.testBit (j % 8) = (l[j / 8].toNat.testBit (j % 8) ^^ decide (k % 8 = j % 8)) := by
      have h2 : (UInt8.ofNat (2 ^ (k % 8))).toNat = 2 ^ (k % 8) := by
        have : 2 ^ (k % 8) ≤ 2 ^ 7 := Nat.pow_le_pow_right (by decide) (by omega)
        simp only [UInt8.toNat_ofNat']
        exact Nat.mod_eq_of_lt (by omega)
      rw [UInt8.toNat_xor, Nat.testBit_xor, h2, Nat.testBit_two_pow]
    rw [hx]
    by_cases hj : j = k
    · subst hj; simp
    · rw [if_neg hj, decide_eq_false (by omega)]; simp
  · rw [if_neg hb, if_neg (by omega)]
def flipN (l : List UInt8) (a w : Nat) : Nat → List UInt8
  | 0 => l
  | i + 1 => if w.testBit i then flip1 (flipN l a w i) (a + i) else flipN l a w i
theorem flipN_len (l : List UInt8) (a w : Nat) : ∀ i, (flipN l a w i).length = l.length
  | 0 => rfl
  | i + 1 => by rw [flipN]; split <;> simp only [flip1_len, flipN_len]
theorem flipN_bits (l : List UInt8) (a w : Nat) : ∀ i, a + i ≤ 8 * l.length → ∀ j, (bitsL (flipN l a w i))[j]? = if a ≤ j ∧ j < a + i ∧ w.testBit (j - a) = true then ((bitsL l)[j]?).map (!·) else (bitsL l)[j]?
  | 0, _, j => by rw [flipN, if_neg (by omega)]
  | i + 1, h, j => by
    have ih := flipN_bits l a w i (by omega) j
    rw [flipN]
    by_cases hw : w.testBit i = true
    · rw [if_pos hw, flip1_bits _ _ _ (by rw [flipN_len]; omega), ih]
      by_cases hj : j = a + i
      · subst hj
        rw [if_pos rfl, if_neg (by omega), if_pos ⟨by omega, by omega, by rw [Nat.add_sub_cancel_left]; exact hw⟩]
      · rw [if_neg hj]
        by_cases h2 : a ≤ j ∧ j < a + i ∧ w.testBit (j - a) = true
        · rw [if_pos h2, if_pos ⟨h2.1, by omega, h2.2.2⟩]
        · rw [if_neg h2, if_neg (fun h3 => h2 ⟨h3.1, by omega, h3.2.2⟩)]
    · rw [if_neg hw, ih]
      by_cases h2 : a ≤ j ∧ j < a + i ∧ w.testBit (j - a) = true
      · rw [if_pos h2, if_pos ⟨h2.1, by omega, h2.2.2⟩]
      · rw [if_neg h2, if_neg (fun h3 => by
          by_cases hj : j = a + i
          · subst hj; rw [Nat.add_sub_cancel_left] at h3; exact hw h3.2.2
          · exact h2 ⟨h3.1, by omega, h3.2.2⟩)]
theorem flipN_sum {l : List UInt8} {a w : Nat} (h : a + 32 ≤ 8 * l.length) (hw : w < 2 ^ 32) (h0 : w ≠ 0) : sumB (flipN l a w 32) ≠ sumB l := by
  intro hs
  have he := sum_burst a (flipN_len l a w 32) (fun k hk => by rw [flipN_bits l a w 32 h, if_neg (by omega)]) hs
  obtain ⟨i, hi⟩ : ∃ i, w.testBit i = true := by
    obtain ⟨i, hi⟩ := Nat.exists_testBit_of_ne_zero h0
    exact ⟨i, hi⟩
  have hi32 : i < 32 := by
    rcases Nat.lt_or_ge i 32 with h1 | h1
    · exact h1
    · rw [Nat.testBit_lt_two_pow (Nat.lt_of_lt_of_le hw (Nat.pow_le_pow_right (by decide) h1))] at hi; cases hi
  have hb := flipN_bits l a w 32 h (a + i)
  rw [he, if_pos ⟨by omega, by omega, by rw [Nat.add_sub_cancel_left]; exact hi⟩, List.getElem?_eq_getElem (by rw [bitsL_len]; omega)] at hb
  simp at hb
theorem flip1_sum {l : List UInt8} {k : Nat} (hk : k < 8 * l.length) : sumB (flip1 l k) ≠ sumB l := by
  intro hs
  have he := sum_burst (l := flip1 l k) (l' := l) k (flip1_len l k) (fun j hj => by rw [flip1_bits l k j hk, if_neg (by omega)]) hs
  have hb := flip1_bits l k k hk
  rw [he, if_pos rfl, List.getElem?_eq_getElem (by rw [bitsL_len]; omega)] at hb
  simp at hb
/-! frames -/
theorem fourI_be (n : Nat) (h : n < 4294967296) : beN (fourI (n : Int)) = BitVec.ofNat 32 n := by
  have e := of4 (b := fourI (n : Int)) (x := UInt8.ofNat (n / 16777216)) (y := UInt8.ofNat (n / 65536)) (z := UInt8.ofNat (n / 256)) (u := UInt8.ofNat n) (h := by simp [fourI]) rfl rfl rfl rfl
  have h4 : (fourI (n : Int)).take 4 = fourI (n : Int) := rfl
  rw [h4] at e
  apply BitVec.eq_of_toNat_eq
  simp only [BitVec.toNat_ofNat]
  simp only [UInt8.toNat_ofNat'] at e
  generalize (beN _).toNat = m at e ⊢
  rw [V.wrap_u32 (x := ((n / 16777216 % 2 ^ 8 : Nat) : Int) * 256) (by omega) (by omega), V.wrap_u32 (x := ((n / 16777216 % 2 ^ 8 : Nat) : Int) * 256 + ((n / 65536 % 2 ^ 8 : Nat) : Int)) (by omega) (by omega),
    V.wrap_u32 (x := (((n / 16777216 % 2 ^ 8 : Nat) : Int) * 256 + ((n / 65536 % 2 ^ 8 : Nat) : Int)) * 256) (by omega) (by omega),
    V.wrap_u32 (x := (((n / 16777216 % 2 ^ 8 : Nat) : Int) * 256 + ((n / 65536 % 2 ^ 8 : Nat) : Int)) * 256 + ((n / 256 % 2 ^ 8 : Nat) : Int)) (by omega) (by omega),
    V.wrap_u32 (x := ((((n / 16777216 % 2 ^ 8 : Nat) : Int) * 256 + ((n / 65536 % 2 ^ 8 : Nat) : Int)) * 256 + ((n / 256 % 2 ^ 8 : Nat) : Int)) * 256) (by omega) (by omega), V.wrap_u32 (by omega) (by omega)] at e
  omega
theorem firstB_mk (n : Nat) (s : BitVec 32) (r : List UInt8) (hn : n < 4294967296) : firstB (fourI (n : Int) ++ fourI (s.toNat : Int) ++ r) = if n ≠ 0 ∧ n ≤ 65536 ∧ n ≤ r.length ∧ sumB (r.take n) = s then some (r.take n) else none := by
  have e1 : (fourI (n : Int) ++ fourI (s.toNat : Int) ++ r).take 4 = fourI (n : Int) := rfl
  have e2 : ((fourI (n : Int) ++ fourI (s.toNat : Int) ++ r).drop 4).take 4 = fourI (s.toNat : Int) := rfl
  have e3 : (fourI (n : Int) ++ fourI (s.toNat : Int) ++ r).drop 8 = r := rfl
  have e4 : (fourI (n : Int) ++ fourI (s.toNat : Int) ++ r).length = r.length + 8 := by simp [fourI]
  have hs := s.isLt
  have e5 : beN (fourI (s.toNat : Int)) = s := by
    rw [fourI_be _ hs]; exact BitVec.ofNat_toNat _ _ |>.trans (by simp)
  have e6 : (beN (fourI (n : Int))).toNat = n := by
    rw [fourI_be _ hn, BitVec.toNat_ofNat]; omega
  unfold firstB secB
  rw [e1, e2, e3, e4, e5, e6]
  by_cases h : n ≠ 0 ∧ n ≤ 65536 ∧ n ≤ r.length ∧ sumB (r.take n) = s
  · rw [if_pos h, if_pos ⟨by omega, h.1, h.2.1, by omega, h.2.2.2⟩]
  · rw [if_neg h, if_neg (fun h2 => h ⟨h2.2.1, h2.2.2.1, by omega, h2.2.2.2.2⟩)]
def frm (b : List UInt8) : List UInt8 := fourI (b.length : Int) ++ fourI (sumB b).toNat ++ b
theorem frm_len (b : List UInt8) : (frm b).length = b.length + 8 := by simp [frm, fourI]
theorem frmB_ok {b : List UInt8} (h0 : 0 < b.length) (h : b.length ≤ 65536) : frmB b = (frm b, 0) := by unfold frmB frm; rw [if_neg (by omega)]
theorem frmB_no {b : List UInt8} (h : b.length = 0 ∨ 65536 < b.length) : frmB b = ([], 21) := by unfold frmB; rw [if_pos h]
theorem first_frm {b r : List UInt8} (h0 : 0 < b.length) (h : b.length ≤ 65536) : firstB (frm b ++ r) = some b := by
  have := firstB_mk b.length (sumB b) (b ++ r) (by omega)
  unfold frm
  rw [List.append_assoc, this, List.take_left, if_pos ⟨by omega, h, by simp, rfl⟩]
theorem first_frm0 {b : List UInt8} (h0 : 0 < b.length) (h : b.length ≤ 65536) : firstB (frm b) = some b := by
  have := first_frm (r := []) h0 h
  rwa [List.append_nil] at this
theorem whole_frm {b : List UInt8} (h0 : 0 < b.length) (h : b.length ≤ 65536) : wholeB (frm b) = (b, 0) := whole_some (first_frm0 h0 h) (by rw [frm_len]; omega)
theorem scan_frm {b r : List UInt8} (h0 : 0 < b.length) (h : b.length ≤ 65536) : scanB (frm b ++ r) = (b :: (scanB r).1, 8 + b.length + (scanB r).2) := by
  have e : (frm b ++ r).drop (8 + b.length) = r := by
    rw [show 8 + b.length = (frm b).length by rw [frm_len]; omega, List.drop_left]
  rw [scanB_some (first_frm h0 h), e]
theorem first_short {b : List UInt8} (h : b.length ≤ 8) : firstB b = none := first_no (by omega)
/-- a frame that is cut is none -/
theorem first_cut {b : List UInt8} (h : b.length ≤ 65536) {c : Nat} (hc : c < b.length + 8) : firstB ((frm b).take c) = none := by
  by_cases h8 : c ≤ 8
  · exact first_short (by rw [List.length_take]; omega)
  · have e : (frm b).take c = fourI (b.length : Int) ++ fourI ((sumB b).toNat : Int) ++ b.take (c - 8) := by
      unfold frm
      rw [List.take_append, List.take_of_length_le (by simp [fourI]; omega)]
      congr 1
    rw [e, firstB_mk _ _ _ (by omega), if_neg (fun h2 => by have := h2.2.2.1; rw [List.length_take] at this; omega)]
/-- a frame whose record has another sum is none -/
theorem first_other {b r : List UInt8} (h : b.length ≤ 65536) (hl : r.length = b.length) (hs : sumB r ≠ sumB b) (t : List UInt8) : firstB (fourI (b.length : Int) ++ fourI ((sumB b).toNat : Int) ++ (r ++ t)) = none := by
  rw [firstB_mk _ _ _ (by omega), if_neg (fun h2 => hs (by have := h2.2.2.2; rwa [← hl, List.take_left] at this))]
theorem flip1_app (h l : List UInt8) (k : Nat) : flip1 (h ++ l) (8 * h.length + k) = h ++ flip1 l k := by
  unfold flip1
  have e1 : (8 * h.length + k) / 8 = h.length + k / 8 := by omega
  have e2 : (8 * h.length + k) % 8 = k % 8 := by omega
  rw [e1, e2, List.set_append_right _ _ (by omega), Nat.add_sub_cancel_left]
  congr 3
  rw [List.getD_eq_getElem?_getD, List.getD_eq_getElem?_getD, List.getElem?_append_right (by omega), Nat.add_sub_cancel_left]
theorem flip1_left (h l : List UInt8) (k : Nat) (hk : k < 8 * h.length) : flip1 (h ++ l) k = flip1 h k ++ l := by
  unfold flip1
  rw [List.set_append_left _ _ (by omega)]
  congr 3
  rw [List.getD_eq_getElem?_getD, List.getD_eq_getElem?_getD, List.getElem?_append_left (by omega)]
theorem flipN_app (h l : List UInt8) (a w : Nat) : ∀ i, flipN (h ++ l) (8 * h.length + a) w i = h ++ flipN l a w i
  | 0 => rfl
  | i + 1 => by
    rw [flipN, flipN, flipN_app h l a w i]
    split
    · rw [Nat.add_assoc, flip1_app]
    · rfl
theorem first_turned {b : List UInt8} (h0 : 0 < b.length) (h : b.length ≤ 65536) {a w : Nat} (ha : a + 32 ≤ 8 * b.length) (hw : w < 2 ^ 32) (hw0 : w ≠ 0) : firstB (flipN (frm b) (64 + a) w 32) = none := by
  have e := flipN_app (fourI (b.length : Int) ++ fourI ((sumB b).toNat : Int)) b a w 32
  rw [show 8 * (fourI (b.length : Int) ++ fourI ((sumB b).toNat : Int)).length = 64 by simp [fourI]] at e
  unfold frm
  rw [e]
  have := first_other (b := b) (r := flipN b a w 32) h (flipN_len _ _ _ _) (flipN_sum ha hw hw0) []
  rwa [List.append_nil] at this
theorem first_flip {b t : List UInt8} (h : b.length ≤ 65536) {k : Nat} (hk : k < 8 * b.length) : firstB (flip1 (frm b) (64 + k) ++ t) = none := by
  have e := flip1_app (fourI (b.length : Int) ++ fourI ((sumB b).toNat : Int)) b k
  rw [show 8 * (fourI (b.length : Int) ++ fourI ((sumB b).toNat : Int)).length = 64 by simp [fourI]] at e
  unfold frm
  rw [e, List.append_assoc]
  exact first_other (b := b) (r := flip1 b k) h (flip1_len _ _) (flip1_sum hk) t
theorem frm_inj {b c : List UInt8} (h : frm b = frm c) : b = c := by
  have := congrArg (List.drop 8) h
  exact this

/-! ### What is opened of a file of frames -/
def allF (ls : List (List UInt8)) : List UInt8 := ls.flatMap frm
theorem allF_app (a b : List (List UInt8)) : allF (a ++ b) = allF a ++ allF b := by simp [allF]
theorem allF_snoc (ls : List (List UInt8)) (x : List UInt8) : allF (ls ++ [x]) = allF ls ++ frm x := by simp [allF]
theorem allF_len : ∀ l : List (List UInt8), (allF l).length = lsum l
  | [] => rfl
  | x :: l => by
    have := allF_len l
    simp only [allF, List.flatMap_cons, List.length_append, frm_len, lsum] at this ⊢
    omega
def FrOk (l : List (List UInt8)) : Prop := ∀ x ∈ l, 1 ≤ x.length ∧ x.length ≤ 65536
theorem scan_all : ∀ {ls : List (List UInt8)} {r : List UInt8}, FrOk ls → firstB r = none → scanB (allF ls ++ r) = (ls, (allF ls).length)
  | [], r, _, hr => by simp [allF, scanB_none hr]
  | x :: ls, r, h, hr => by
    have hx := h x (by simp)
    have ih := scan_all (ls := ls) (r := r) (fun y hy => h y (by simp [hy])) hr
    have e : allF (x :: ls) ++ r = frm x ++ (allF ls ++ r) := by simp [allF]
    rw [e, scan_frm (by omega) (by omega), ih]
    simp only [allF, List.flatMap_cons, List.length_append, frm_len]
    congr 1; omega
theorem scan_file {ls : List (List UInt8)} (h : FrOk ls) : (scanB (allF ls)).1 = ls := by
  have := scan_all (r := []) h (first_short (Nat.zero_le _))
  rw [List.append_nil] at this
  rw [this]
theorem take_A (j : JV) {b : List UInt8} (h : b.length ≤ 65536) : takeV j (chA b) = some { j with l := j.l ++ [b] } := by
  have h1 : rdN (chA b) 3 = ((1, 0), textB b) := rdN_num (v := 1) (by decide) (by decide) _
  have h2 : rdT (textB b) 65536 = ((b, 0), []) := by
    have := rdT_text (s := b) (r := []) (most := 65536) (by omega) (by omega)
    rwa [List.append_nil] at this
  rw [takeV_1 (by rw [h1]) (by rw [h1]), h1]
  unfold recV
  rw [h2]; rfl
theorem take_C {j : JV} {n : Int} (h0 : 0 ≤ n) (h1 : n ≤ j.l.length) (hl : j.l.length ≤ 1000000) : takeV j (chC n) = some { j with l := j.l.take n.toNat } := by
  have e1 : rdN (chC n) 3 = ((2, 0), numB n.toNat) := rdN_num (v := 2) (by decide) (by decide) _
  have e2 : rdN (numB n.toNat) 1099511627776 = (((n.toNat : Int), 0), []) := by
    have := rdN_num (v := n.toNat) (most := 1099511627776) (by omega) (by omega) []
    rwa [List.append_nil] at this
  rw [takeV_2 (by rw [e1]) (by rw [e1]), e1]
  unfold cutV
  rw [e2, if_pos ⟨rfl, rfl, by dsimp only; omega⟩]; rfl
theorem take_R {j : JV} {n : Int} {b : List UInt8} (h : ¬ rebBad n b) : takeV j (chR n b) = some { j with base := n, data := b, l := basL j n } := by
  unfold rebBad at h
  have e1 : rdN (chR n b) 3 = ((3, 0), numB n.toNat ++ textB b) := by
    unfold chR; rw [List.append_assoc]; exact rdN_num (v := 3) (by decide) (by decide) _
  have e2 : rdN (numB n.toNat ++ textB b) 1099511627776 = ((n, 0), textB b) := by
    have := rdN_num (v := n.toNat) (most := 1099511627776) (by omega) (by omega) (textB b)
    rwa [Int.toNat_of_nonneg (by omega)] at this
  have e3 : rdT (textB b) 65536 = ((b, 0), []) := by
    have := rdT_text (s := b) (r := []) (most := 65536) (by omega) (by omega)
    rwa [List.append_nil] at this
  rw [takeV_3 (by rw [e1]) (by rw [e1]), e1]
  unfold basV
  rw [e2, e3, if_pos ⟨rfl, rfl, rfl⟩]
theorem textBl_len {b : List UInt8} (h : b.length ≤ 65536) : 1 ≤ (textB b).length ∧ (textB b).length ≤ b.length + 9 := by
  have := numB_len9 (v := (b.length : Int)) (by omega)
  rw [Int.toNat_natCast] at this
  have := numB_pos b.length
  unfold textB
  rw [List.length_append]
  omega
theorem n1_len : (numB 1).length = 1 ∧ (numB 2).length = 1 ∧ (numB 3).length = 1 := by
  rw [numB_lt (by decide), numB_lt (by decide), numB_lt (by decide)]; exact ⟨rfl, rfl, rfl⟩
theorem chA_len {b : List UInt8} (h : b.length ≤ 65516) : 1 ≤ (chA b).length ∧ (chA b).length ≤ b.length + 10 := by
  have := textBl_len (b := b) (by omega)
  have := n1_len.1
  unfold chA
  rw [List.length_append]
  omega
theorem chC_len {n : Int} (h : n ≤ 1000000) : 1 ≤ (chC n).length ∧ (chC n).length ≤ 10 := by
  have := numB_len9 (v := n) (by omega)
  have := n1_len.2.1
  unfold chC
  rw [List.length_append]
  omega
theorem chR_len {n : Int} {b : List UInt8} (h : ¬ rebBad n b) : 1 ≤ (chR n b).length ∧ (chR n b).length ≤ b.length + 19 := by
  unfold rebBad at h
  have := textBl_len (b := b) (by omega)
  have := numB_len9 (v := n) (by omega)
  have := n1_len.2.2
  unfold chR
  rw [List.length_append, List.length_append]
  omega
def hset (j : JV) (t v b : Int) : JV := { j with t := t, v := v, b := b }
theorem takeV_hard (j : JV) (t v b : Int) (x : List UInt8) : takeV (hset j t v b) x = (takeV j x).map (hset · t v b) := by
  unfold takeV recV cutV basV hset basL
  dsimp only
  repeat' split
  all_goals rfl
theorem takeV_same {j j' : JV} {x : List UInt8} (h : takeV j x = some j') : j'.t = j.t ∧ j'.v = j.v ∧ j'.b = j.b := by
  unfold takeV recV cutV basV at h
  split at h
  · split at h
    · split at h <;> cases h; exact ⟨rfl, rfl, rfl⟩
    · split at h
      · split at h <;> cases h; exact ⟨rfl, rfl, rfl⟩
      · split at h
        · split at h <;> cases h; exact ⟨rfl, rfl, rfl⟩
        · cases h
  · cases h
theorem runV_hard (t v b : Int) : ∀ (l : List (List UInt8)) (j : JV), runV (hset j t v b) l = (hset (runV j l).1 t v b, (runV j l).2)
  | [], j => rfl
  | x :: l, j => by
    have h := takeV_hard j t v b x
    cases ht : takeV j x with
    | none => rw [ht] at h; simp only [Option.map_none] at h; simp only [runV, ht, h]
    | some j' =>
      rw [ht] at h; simp only [Option.map_some] at h
      simp only [runV, ht, h, runV_hard t v b l j']
theorem runV_le : ∀ (l : List (List UInt8)) (j : JV), (runV j l).2 ≤ lsum l
  | [], j => Nat.le_refl _
  | x :: l, j => by
    cases ht : takeV j x with
    | none => simp only [runV, ht]; exact Nat.zero_le _
    | some j' => have := runV_le l j'; simp only [runV, ht, lsum]; omega
theorem lsum_app : ∀ (a b : List (List UInt8)), lsum (a ++ b) = lsum a + lsum b
  | [], b => by simp [lsum]
  | x :: a, b => by have := lsum_app a b; simp only [List.cons_append, lsum]; omega
theorem runV_app : ∀ {l : List (List UInt8)} {j0 j : JV} (r : List (List UInt8)), runV j0 l = (j, lsum l) → runV j0 (l ++ r) = ((runV j r).1, lsum l + (runV j r).2)
  | [], j0, j, r, h => by
    simp only [runV, lsum, Prod.mk.injEq] at h
    rw [h.1]; simp [lsum]
  | y :: l, j0, j, r, h => by
    cases ht : takeV j0 y with
    | none => simp only [runV, ht, lsum, Prod.mk.injEq] at h; omega
    | some j1 =>
      simp only [runV, ht, lsum, Prod.mk.injEq] at h
      have := runV_app (l := l) (j0 := j1) (j := j) r (Prod.ext h.1 (by dsimp only; omega))
      simp only [List.cons_append, runV, ht, this, lsum]
      congr 1; omega
/-- the disk's file is the frames of l, and what is opened of it is the journal -/
structure Sy (j : JV) (d : DiskV) (l : List (List UInt8)) : Prop where
  fr : FrOk l
  nf : d.nf = allF l
  run : runV ⟨0, [], [], j.t, j.v, j.b⟩ l = (j, lsum l)
  hc : hardV d.nc = some (j.t, j.v, j.b)
theorem Sy.new : Sy ⟨0, [], [], 0, 0, 0⟩ ⟨[], [], [], []⟩ [] := ⟨fun x h => (by cases h), rfl, rfl, by unfold hardV; rw [if_pos rfl]⟩
theorem Sy.opn {j : JV} {d : DiskV} {l : List (List UInt8)} (h : Sy j d l) : runV ⟨0, [], [], j.t, j.v, j.b⟩ (scanB d.nf).1 = (j, d.nf.length) := by
  rw [h.nf, scan_file h.fr, h.run, allF_len]
theorem eAppend_0 {d : DiskV} {x : List UInt8} (h : d.nf.length + x.length ≤ 16777216) : eAppend d x = 0 ∧ dAppend d x = { d with nf := d.nf ++ x } := by
  unfold eAppend dAppend; rw [if_neg (by omega), if_neg (by omega)]; exact ⟨rfl, rfl⟩
theorem Sy.does {j j' : JV} {d : DiskV} {l : List (List UInt8)} {x : List UInt8} (h : Sy j d l) (ht : takeV j x = some j') (hx : 1 ≤ x.length ∧ x.length ≤ 65536) (hd : d.nf.length + (x.length + 8) ≤ 16777216) :
    (doesJ j d x = j' ∧ doesE j d x = 0 ∧ doesD d x = { d with nf := d.nf ++ frm x }) ∧ Sy j' { d with nf := d.nf ++ frm x } (l ++ [x]) := by
  have hf := frmB_ok (b := x) (by omega) hx.2
  have ha := eAppend_0 (d := d) (x := frm x) (by rw [frm_len]; omega)
  have hh := takeV_same ht
  refine ⟨⟨?_, ?_, ?_⟩, ⟨?_, ?_, ?_, ?_⟩⟩
  · unfold doesJ; rw [hf, if_pos ⟨rfl, ha.1⟩, ht]; rfl
  · unfold doesE; rw [hf, if_pos ⟨rfl, ha.1, by rw [ht]; rfl⟩]
  · unfold doesD; rw [hf, if_pos rfl]; exact ha.2
  · intro y hy
    rcases List.mem_append.1 hy with h1 | h1
    · exact h.fr y h1
    · rw [List.mem_singleton.1 h1]; exact hx
  · dsimp only; rw [h.nf, allF_snoc]
  · rw [hh.1, hh.2.1, hh.2.2, runV_app [x] h.run]
    simp only [runV, ht, lsum_app, lsum]
  · rw [hh.1, hh.2.1, hh.2.2]; exact h.hc
theorem Sy.sync {j : JV} {d : DiskV} {l : List (List UInt8)} (h : Sy j d l) : Sy j (dSync d) l := ⟨h.fr, h.nf, h.run, h.hc⟩
theorem hard_nums {t v b : Int} (h : ¬ setBad t v b) : hardV (frmB (nums3 t v b)).1 = some (t, v, b) ∧ (frmB (nums3 t v b)).1 = frm (nums3 t v b) := by
  unfold setBad at h
  have hn := nums3_len (t := t) (v := v) (b := b) (by omega) (by omega) (by omega)
  have hf := frmB_ok hn.1 (by omega)
  have hw := whole_frm hn.1 (by omega)
  have e1 : rdN (nums3 t v b) 1099511627776 = ((t, 0), numB v.toNat ++ numB b.toNat) := by
    unfold nums3; rw [List.append_assoc]
    have := rdN_num (v := t.toNat) (most := 1099511627776) (by omega) (by omega) (numB v.toNat ++ numB b.toNat)
    rwa [Int.toNat_of_nonneg (by omega)] at this
  have e2 : rdN (numB v.toNat ++ numB b.toNat) 1099511627776 = ((v, 0), numB b.toNat) := by
    have := rdN_num (v := v.toNat) (most := 1099511627776) (by omega) (by omega) (numB b.toNat)
    rwa [Int.toNat_of_nonneg (by omega)] at this
  have e3 : rdN (numB b.toNat) 1099511627776 = ((b, 0), []) := by
    have := rdN_num (v := b.toNat) (most := 1099511627776) (by omega) (by omega) []
    rwa [Int.toNat_of_nonneg (by omega), List.append_nil] at this
  rw [hf]
  refine ⟨?_, rfl⟩
  unfold hardV
  rw [if_neg (fun e => by have := congrArg List.length e; rw [frm_len] at this; simp at this), hw]
  simp only [e1, e2, e3, and_self, if_true]
theorem Sy.set {j : JV} {d : DiskV} {l : List (List UInt8)} (h : Sy j d l) (t v b : Int) : Sy (setJ j t v b) (setD d t v b) l := by
  unfold setJ setD
  split
  · exact h
  · rename_i hb
    refine ⟨h.fr, h.nf, ?_, (hard_nums hb).1⟩
    have := runV_hard t v b l ⟨0, [], [], j.t, j.v, j.b⟩
    rw [h.run] at this
    exact this

/-! ### Acts on a journal whose file is its own -/
theorem openD_same (d : DiskV) : openD d d.nf.length = d := by unfold openD; rw [if_neg (Nat.lt_irrefl _)]
theorem Sy.app {j : JV} {d : DiskV} {l : List (List UInt8)} {b : List UInt8} (h : Sy j d l) (hb : b.length ≤ 65516) (hd : d.nf.length + (b.length + 18) ≤ 16777216) :
    (appJ j d b = { j with l := j.l ++ [b] } ∧ appE j d b = 0 ∧ appD d b = { d with nf := d.nf ++ frm (chA b) }) ∧ Sy { j with l := j.l ++ [b] } { d with nf := d.nf ++ frm (chA b) } (l ++ [chA b]) := by
  have hl := chA_len hb
  have := h.does (take_A j (b := b) (by omega)) (by omega) (by omega)
  unfold appJ appE appD
  rw [if_neg (by omega), if_neg (by omega), if_neg (by omega)]
  exact this
theorem Sy.cutY {j : JV} {d : DiskV} {l : List (List UInt8)} {n : Int} (h : Sy j d l) (hn : ¬ cutBad j n) (hl : j.l.length ≤ 1000000) (hd : d.nf.length + 18 ≤ 16777216) :
    (cutJ j d n = { j with l := j.l.take (n - j.base).toNat } ∧ cutE j d n = 0 ∧ cutD j d n = { d with nf := d.nf ++ frm (chC (n - j.base)) }) ∧ Sy { j with l := j.l.take (n - j.base).toNat } { d with nf := d.nf ++ frm (chC (n - j.base)) } (l ++ [chC (n - j.base)]) := by
  have hn' := hn
  unfold cutBad at hn'
  have hc := chC_len (n := n - j.base) (by omega)
  have := h.does (take_C (j := j) (n := n - j.base) (by omega) (by omega) hl) (by omega) (by omega)
  unfold cutJ cutE cutD
  rw [if_neg hn, if_neg hn, if_neg hn]
  exact this
theorem Sy.rebY {j : JV} {d : DiskV} {l : List (List UInt8)} {n : Int} {b : List UInt8} (h : Sy j d l) (hn : ¬ rebBad n b) (hd : d.nf.length + (b.length + 27) ≤ 16777216) :
    (rebJ j d n b = { j with base := n, data := b, l := basL j n } ∧ rebE j d n b = 0 ∧ rebD d n b = { d with nf := d.nf ++ frm (chR n b) }) ∧ Sy { j with base := n, data := b, l := basL j n } { d with nf := d.nf ++ frm (chR n b) } (l ++ [chR n b]) := by
  have hc := chR_len hn
  have hn' := hn
  unfold rebBad at hn'
  have := h.does (take_R (j := j) hn) (by omega) (by omega)
  unfold rebJ rebE rebD
  rw [if_neg hn, if_neg hn, if_neg hn]
  exact this
theorem comm_self : ∀ a : List UInt8, comm a a = a.length
  | [] => rfl
  | x :: a => by simp [comm, comm_self a]
theorem Sy.crash0 {j : JV} {d : DiskV} {l : List (List UInt8)} (h : Sy j d l) : Sy j (dCrash (dSync d) 0 false false) l := by
  have hl : dLeft (dSync d) 0 false = d.nf := dLeft_sf (d := dSync d) (keep := 0) (torn := false) ⟨by decide, .inl (comm_self _).symm⟩
  exact ⟨h.fr, hl.trans h.nf, h.run, h.hc⟩
/-- from (j, d, l) to (j', d', l'): one change more, or none -/
structure Stp (j : JV) (d : DiskV) (l : List (List UInt8)) (j' : JV) (d' : DiskV) (l' : List (List UInt8)) : Prop where
  sy : Sy j' d' l'
  ch : (l' = l ∧ j'.base = j.base ∧ j'.data = j.data ∧ j'.l = j.l) ∨ ∃ x, l' = l ++ [x]
  nf : d'.nf.length ≤ d.nf.length + 300
  ll : j'.l.length ≤ j.l.length + 1
  sf : d'.sf = d.sf ∧ d'.sc = d.sc
theorem Sy.none {j : JV} {d : DiskV} {l : List (List UInt8)} (h : Sy j d l) : Stp j d l j d l := ⟨h, .inl ⟨rfl, rfl, rfl, rfl⟩, by omega, by omega, rfl, rfl⟩
theorem Sy.appS {j : JV} {d : DiskV} {l : List (List UInt8)} {b : List UInt8} (h : Sy j d l) (hb : b.length ≤ 200) (hd : d.nf.length ≤ 16000000) : ∃ l', Stp j d l (appJ j d b) (appD d b) l' := by
  obtain ⟨⟨h1, h2, h3⟩, h4⟩ := h.app (b := b) (by omega) (by omega)
  have := chA_len (b := b) (by omega)
  rw [h1, h3]
  exact ⟨_, h4, .inr ⟨_, rfl⟩, by dsimp only; rw [List.length_append, frm_len]; omega, by simp, rfl, rfl⟩
theorem Sy.cutS {j : JV} {d : DiskV} {l : List (List UInt8)} (n : Int) (h : Sy j d l) (hl : j.l.length ≤ 1000000) (hd : d.nf.length ≤ 16000000) : ∃ l', Stp j d l (cutJ j d n) (cutD j d n) l' := by
  by_cases hn : cutBad j n
  · unfold cutJ cutD; rw [if_pos hn, if_pos hn]; exact ⟨l, h.none⟩
  · obtain ⟨⟨h1, h2, h3⟩, h4⟩ := h.cutY hn hl (by omega)
    have hn' := hn
    unfold cutBad at hn'
    have := chC_len (n := n - j.base) (by omega)
    rw [h1, h3]
    exact ⟨_, h4, .inr ⟨_, rfl⟩, by dsimp only; rw [List.length_append, frm_len]; omega, by dsimp only; rw [List.length_take]; omega, rfl, rfl⟩
theorem Sy.rebS {j : JV} {d : DiskV} {l : List (List UInt8)} {b : List UInt8} (n : Int) (h : Sy j d l) (hb : b.length ≤ 200) (hd : d.nf.length ≤ 16000000) : ∃ l', Stp j d l (rebJ j d n b) (rebD d n b) l' := by
  by_cases hn : rebBad n b
  · unfold rebJ rebD; rw [if_pos hn, if_pos hn]; exact ⟨l, h.none⟩
  · obtain ⟨⟨h1, h2, h3⟩, h4⟩ := h.rebY hn (by omega)
    have := chR_len hn
    have hbl := basL_len j n
    rw [h1, h3]
    exact ⟨_, h4, .inr ⟨_, rfl⟩, by dsimp only; rw [List.length_append, frm_len]; omega, by dsimp only; omega, rfl, rfl⟩
theorem Sy.setS {j : JV} {d : DiskV} {l : List (List UInt8)} (t v b : Int) (h : Sy j d l) : Stp j d l (setJ j t v b) (setD d t v b) l := by
  refine ⟨h.set t v b, .inl ⟨rfl, ?_⟩, ?_, ?_, ?_⟩
  · unfold setJ; split <;> exact ⟨rfl, rfl, rfl⟩
  · unfold setD; split <;> simp
  · unfold setJ; split <;> simp
  · unfold setD; split <;> exact ⟨rfl, rfl⟩

end Go.Proofs.Ytnbijpijbhkcpaa
