/- Proved here: walks: what functions of this seat's program return and what they leave of memory, each as a contract. Conditions: stated at each theorem. -/
import Derived.Test.YthlgimhbdemfjaaMl2
namespace Go.Proofs.Ythlgimhbdemfjaa
set_option linter.unusedVariables false
set_option linter.unusedSimpArgs false
open Go
open V (Bytes Meets Env Sl Own Gr Fr Cells S)
/-! ### The sum finds what is turned within 32 bits -/
theorem crc1_xor (a b : BitVec 32) : crc1 (a ^^^ b) = crc1 a ^^^ crc1 b := by
  rw [crc1_lsb, crc1_lsb, crc1_lsb, BitVec.getLsbD_xor, shr_xor]
  generalize a >>> 1 = x
  generalize b >>> 1 = y
  cases a.getLsbD 0 <;> cases b.getLsbD 0 <;> simp <;> ext i <;> simp <;> (generalize x[i] = p; generalize y[i] = q; generalize (poly)[i] = r; cases p <;> cases q <;> cases r <;> rfl)
theorem crc1_zero : crc1 0#32 = 0#32 := by decide +kernel
theorem crc1_bit (a : BitVec 32) (i : Nat) (hi : i < 32) : (crc1 a).getLsbD i = (a.getLsbD (i + 1) ^^ (a.getLsbD 0 && poly.getLsbD i)) := by
  rw [crc1_lsb]
  cases h : a.getLsbD 0 <;> simp [hi, Nat.add_comm]
theorem crc1_inj0 {a : BitVec 32} (h : crc1 a = 0#32) : a = 0#32 := by
  have h0 : a.getLsbD 0 = false := by
    have := crc1_bit a 31 (by decide)
    rw [h] at this
    have hp : poly.getLsbD 31 = true := by decide +kernel
    have h32 : a.getLsbD 32 = false := BitVec.getLsbD_of_ge a 32 (by decide)
    rw [h32, hp] at this
    simpa using this.symm
  apply BitVec.eq_of_getLsbD_eq
  intro i hi
  rw [BitVec.getLsbD_zero]
  cases i with
  | zero => exact h0
  | succ i =>
    have := crc1_bit a i (by omega)
    rw [h, h0] at this
    simpa using this.symm
theorem crc1_inj {a b : BitVec 32} (h : crc1 a = crc1 b) : a = b := by
  have h1 : crc1 (a ^^^ b) = 0#32 := by rw [crc1_xor, h, BitVec.xor_self]
  exact BitVec.xor_eq_zero_iff.1 (crc1_inj0 h1)
theorem crcK_succ (n : Nat) (a : BitVec 32) : crcK (n + 1) a = crc1 (crcK n a) := by rw [crcK]
theorem crcK_succ' : ∀ (n : Nat) (a : BitVec 32), crcK (n + 1) a = crcK n (crc1 a)
  | 0, a => by rw [crcK_succ, crcK, crcK]
  | n + 1, a => by rw [crcK_succ, crcK_succ' n a, crcK_succ]
theorem crcK_inj {a b : BitVec 32} : ∀ {n : Nat}, crcK n a = crcK n b → a = b
  | 0, h => by simpa [crcK] using h
  | n + 1, h => crcK_inj (crc1_inj (by rw [crcK_succ, crcK_succ] at h; exact h))
def b2w (b : Bool) : BitVec 32 := if b then 1#32 else 0#32
def step1 (s : BitVec 32) (b : Bool) : BitVec 32 := crc1 (s ^^^ b2w b)
def ser (s : BitVec 32) (l : List Bool) : BitVec 32 := l.foldl step1 s
def wordB : List Bool → BitVec 32
  | [] => 0#32
  | b :: u => b2w b ^^^ (wordB u <<< 1)
theorem b2w_bit (b : Bool) (i : Nat) : (b2w b).getLsbD i = (decide (i = 0) && b) := by
  cases b
  · simp [b2w]
  · by_cases h : i = 0 <;> simp [b2w, BitVec.getLsbD_one, h]
theorem wordB_bit : ∀ (u : List Bool) (i : Nat), i < 32 → (wordB u).getLsbD i = u.getD i false
  | [], i, hi => by simp [wordB]
  | b :: u, i, hi => by
    rw [wordB, BitVec.getLsbD_xor, b2w_bit, BitVec.getLsbD_shiftLeft]
    cases i with
    | zero => simp
    | succ i => rw [Nat.add_sub_cancel, wordB_bit u i (by omega)]; simp [hi]
theorem crc1_shl (z : BitVec 32) (h : z.getLsbD 31 = false) : crc1 (z <<< 1) = z := by
  apply BitVec.eq_of_getLsbD_eq
  intro i hi
  rw [crc1_bit _ _ hi, BitVec.getLsbD_shiftLeft, BitVec.getLsbD_shiftLeft]
  by_cases h31 : i = 31
  · subst h31; simp; rw [← BitVec.getLsbD_eq_getElem]; exact h
  · have : i + 1 < 32 := by omega
    simp [this]
theorem ser_word : ∀ (u : List Bool) (s : BitVec 32), u.length ≤ 32 → ser s u = crcK u.length (s ^^^ wordB u)
  | [], s, _ => by simp [ser, wordB, crcK]
  | b :: u, s, h => by
    simp only [List.length_cons] at h
    have h31 : (wordB u).getLsbD 31 = false := by
      rw [wordB_bit u 31 (by decide), List.getD_eq_getElem?_getD, List.getElem?_eq_none (by omega)]; rfl
    have e1 : ser s (b :: u) = ser (step1 s b) u := rfl
    rw [e1, ser_word u _ (by omega), List.length_cons, crcK_succ', wordB, ← BitVec.xor_assoc, crc1_xor, crc1_shl _ h31]; rfl
theorem ser_inj : ∀ (t : List Bool) {a b : BitVec 32}, ser a t = ser b t → a = b
  | [], a, b, h => h
  | x :: t, a, b, h => by
    have := crc1_inj (ser_inj t (a := step1 a x) (b := step1 b x) h)
    have h2 := congrArg (· ^^^ b2w x) this
    simpa [BitVec.xor_assoc] using h2
theorem ser_append (s : BitVec 32) (a b : List Bool) : ser s (a ++ b) = ser (ser s a) b := by simp [ser]
theorem ser_window {p u u' t : List Bool} {s : BitVec 32} (hl : u.length = u'.length) (h32 : u.length ≤ 32) (h : ser s (p ++ u ++ t) = ser s (p ++ u' ++ t)) : u = u' := by
  rw [ser_append, ser_append, ser_append, ser_append] at h
  have h1 := ser_inj t h
  rw [ser_word u _ h32, ser_word u' _ (by omega), hl] at h1
  have h2 := crcK_inj h1
  have h3 : wordB u = wordB u' := by
    have := congrArg (ser s p ^^^ ·) h2
    simpa [← BitVec.xor_assoc] using this
  apply List.ext_getElem hl
  intro i h1 h2
  have e1 := wordB_bit u i (by omega)
  have e2 := wordB_bit u' i (by omega)
  rw [h3, e2] at e1
  rw [List.getD_eq_getElem?_getD, List.getD_eq_getElem?_getD, List.getElem?_eq_getElem h1, List.getElem?_eq_getElem h2] at e1
  simpa using e1.symm
/-! bytes as bits -/
def bits8 (c : UInt8) : List Bool := (List.range 8).map fun k => c.toNat.testBit k
def bitsL (l : List UInt8) : List Bool := l.flatMap bits8
theorem bits8_len (c : UInt8) : (bits8 c).length = 8 := by simp [bits8]
theorem bitsL_len : ∀ (l : List UInt8), (bitsL l).length = 8 * l.length
  | [] => rfl
  | c :: l => by
    have := bitsL_len l
    simp only [bitsL, List.flatMap_cons, List.length_append, bits8_len, List.length_cons] at this ⊢
    omega
theorem bOf_bit (c : UInt8) (k : Nat) : (bOf c >>> k).getLsbD 0 = c.toNat.testBit k := by
  rw [BitVec.getLsbD_ushiftRight, BitVec.getLsbD, bOf_toNat, Nat.add_zero]
theorem refS_step (s : BitVec 32) (c : UInt8) (k : Nat) : refS s c (k + 1) = step1 (refS s c k) (c.toNat.testBit k) := by
  have h1 : (b2w (c.toNat.testBit k)) >>> 1 = 0#32 := by cases c.toNat.testBit k <;> decide
  rw [refS_next, bOf_bit, step1, crc1_lsb, BitVec.getLsbD_xor, b2w_bit, shr_xor, h1, BitVec.xor_zero]
  cases (refS s c k).getLsbD 0 <;> cases c.toNat.testBit k <;> rfl
theorem ser_byte (s : BitVec 32) (c : UInt8) : crcB s c = ser s (bits8 c) := by
  have h : ∀ k, refS s c k = ser s ((List.range k).map fun k => c.toNat.testBit k) := by
    intro k
    induction k with
    | zero => rw [refS_zero]; rfl
    | succ k ih => rw [refS_step, ih, List.range_succ, List.map_append, ser_append]; rfl
  have h8 := h 8
  rw [refS_eight] at h8
  exact h8
theorem ser_bytes (s : BitVec 32) : ∀ (l : List UInt8), l.foldl crcB s = ser s (bitsL l) := by
  intro l
  induction l generalizing s with
  | nil => rfl
  | cons c l ih => simp only [List.foldl_cons, bitsL, List.flatMap_cons, ser_append]; rw [ser_byte, ih]; rfl
theorem crcL_bits (l : List UInt8) : crcL l = ser 0xFFFFFFFF#32 (bitsL l) := by
  unfold crcL; exact ser_bytes _ l
theorem sum_window {l l' : List UInt8} {p u u' t : List Bool} (h1 : bitsL l = p ++ u ++ t) (h2 : bitsL l' = p ++ u' ++ t) (hl : u.length = u'.length) (h32 : u.length ≤ 32) (h : sumB l = sumB l') : u = u' := by
  have h3 : crcL l = crcL l' := by
    unfold sumB at h
    have := congrArg (~~~ ·) h
    simpa using this
  rw [crcL_bits, crcL_bits, h1, h2] at h3
  exact ser_window hl h32 h3
theorem bits8_get (c : UInt8) (k : Nat) (hk : k < 8) : (bits8 c)[k]? = some (c.toNat.testBit k) := by
  simp [bits8, hk]
theorem bitsL_get : ∀ (l : List UInt8) (k : Nat), (bitsL l)[k]? = (l[k / 8]?).map fun c => c.toNat.testBit (k % 8)
  | [], k => by simp [bitsL]
  | c :: l, k => by
    simp only [bitsL, List.flatMap_cons]
    by_cases hk : k < 8
    · rw [List.getElem?_append_left (by rw [bits8_len]; exact hk), bits8_get c k hk, Nat.div_eq_of_lt hk, Nat.mod_eq_of_lt hk]; rfl
    · rw [List.getElem?_append_right (by rw [bits8_len]; omega), bits8_len]
      have := bitsL_get l (k - 8)
      simp only [bitsL] at this
      rw [this, show k / 8 = (k - 8) / 8 + 1 by omega, show k % 8 = (k - 8) % 8 by omega, List.getElem?_cons_succ]
theorem bitsL_inj {l l' : List UInt8} (hl : l.length = l'.length) (h : bitsL l = bitsL l') : l = l' := by
  apply List.ext_getElem hl
  intro i h1 h2
  apply UInt8.toNat_inj.1
  apply Nat.eq_of_testBit_eq
  intro j
  by_cases hj : j < 8
  · have e1 := bitsL_get l (8 * i + j)
    have e2 := bitsL_get l' (8 * i + j)
    rw [h, e2, show (8 * i + j) / 8 = i by omega, show (8 * i + j) % 8 = j by omega, List.getElem?_eq_getElem h1, List.getElem?_eq_getElem h2] at e1
    simpa using e1.symm
  · have hp : 2 ^ 8 ≤ 2 ^ j := Nat.pow_le_pow_right (by decide) (by omega)
    have l1 := l[i].toNat_lt
    have l2 := l'[i].toNat_lt
    rw [Nat.testBit_lt_two_pow (by omega), Nat.testBit_lt_two_pow (by omega)]
/-- bytes of which only bits from a on, 32 of them, differ, have another sum -/
theorem sum_burst {l l' : List UInt8} (a : Nat) (hl : l.length = l'.length) (h : ∀ k, ¬ (a ≤ k ∧ k < a + 32) → (bitsL l)[k]? = (bitsL l')[k]?) (hs : sumB l = sumB l') : l = l' := by
  have cut : ∀ b : List Bool, b = b.take a ++ (b.drop a).take 32 ++ b.drop (a + 32) := by
    intro b
    rw [List.append_assoc, ← List.drop_drop, List.take_append_drop, List.take_append_drop]
  have hlen : (bitsL l).length = (bitsL l').length := by rw [bitsL_len, bitsL_len, hl]
  have hp : (bitsL l).take a = (bitsL l').take a := by
    apply List.ext_getElem?
    intro k
    rw [List.getElem?_take, List.getElem?_take]
    split
    · exact h k (by omega)
    · rfl
  have ht : (bitsL l).drop (a + 32) = (bitsL l').drop (a + 32) := by
    apply List.ext_getElem?
    intro k
    rw [List.getElem?_drop, List.getElem?_drop]
    exact h _ (by omega)
  have h1 := cut (bitsL l)
  have h2 := cut (bitsL l')
  rw [← hp, ← ht] at h2
  have hu := sum_window h1 h2 (by simp [hlen]) (by simp; omega) hs
  apply bitsL_inj hl
  rw [h1, h2, hu]
/-! one bit turned -/
def flip1 (l : List UInt8) (k : Nat) : List UInt8 := l.set (k / 8) (l.getD (k / 8) 0 ^^^ UInt8.ofNat (2 ^ (k % 8)))
theorem flip1_len (l : List UInt8) (k : Nat) : (flip1 l k).length = l.length := by simp [flip1]
theorem flip1_bits (l : List UInt8) (k j : Nat) (hk : k < 8 * l.length) : (bitsL (flip1 l k))[j]? = if j = k then ((bitsL l)[j]?).map (!·) else (bitsL l)[j]? := by
  rw [bitsL_get, bitsL_get, flip1, List.getElem?_set]
  by_cases hb : k / 8 = j / 8
  · have hlt : j / 8 < l.length := by omega
    rw [if_pos hb, if_pos (show k / 8 < l.length by omega), List.getD_eq_getElem?_getD, hb, List.getElem?_eq_getElem hlt]
    simp only [Option.getD_some, Option.map_some]
    have hx : (l[j / 8] ^^^ UInt8.ofNat (2 ^ (k % 8))).toNat.testBit (j % 8) = (l[j / 8].toNat.testBit (j % 8) ^^ decide (k % 8 = j % 8)) := by
      have h2 : (UInt8.ofNat (2 ^ (k % 8))).toNat = 2 ^ (k % 8) := by
        have : 2 ^ (k % 8) ≤ 2 ^ 7 := Nat.pow_le_pow_right (by decide) (by omega)
        simp only [UInt8.toNat_ofNat']
        exact Nat.mod_eq_of_lt (by omega)
      rw [UInt8.toNat_xor, Nat.testBit_xor, h2, Nat.testBit_two_pow]
    rw [hx]
    by_cases hj : j = k
    · subst hj; simp
    · rw [if_neg hj, decide_eq_false (by omega)]; simp
  · rw [if_neg hb, if_neg (by omega)]
def flipN (l : List UInt8) (a w : Nat) : Nat → List UInt8
  | 0 => l
  | i + 1 => if w.testBit i then flip1 (flipN l a w i) (a + i) else flipN l a w i
theorem flipN_len (l : List UInt8) (a w : Nat) : ∀ i, (flipN l a w i).length = l.length
  | 0 => rfl
  | i + 1 => by rw [flipN]; split <;> simp only [flip1_len, flipN_len]
theorem flipN_bits (l : List UInt8) (a w : Nat) : ∀ i, a + i ≤ 8 * l.length → ∀ j, (bitsL (flipN l a w i))[j]? = if a ≤ j ∧ j < a + i ∧ w.testBit (j - a) = true then ((bitsL l)[j]?).map (!·) else (bitsL l)[j]?
  | 0, _, j => by rw [flipN, if_neg (by omega)]
  | i + 1, h, j => by
    have ih := flipN_bits l a w i (by omega) j
    rw [flipN]
    by_cases hw : w.testBit i = true
    · rw [if_pos hw, flip1_bits _ _ _ (by rw [flipN_len]; omega), ih]
      by_cases hj : j = a + i
      · subst hj
        rw [if_pos rfl, if_neg (by omega), if_pos ⟨by omega, by omega, by rw [Nat.add_sub_cancel_left]; exact hw⟩]
      · rw [if_neg hj]
        by_cases h2 : a ≤ j ∧ j < a + i ∧ w.testBit (j - a) = true
        · rw [if_pos h2, if_pos ⟨h2.1, by omega, h2.2.2⟩]
        · rw [if_neg h2, if_neg (fun h3 => h2 ⟨h3.1, by omega, h3.2.2⟩)]
    · rw [if_neg hw, ih]
      by_cases h2 : a ≤ j ∧ j < a + i ∧ w.testBit (j - a) = true
      · rw [if_pos h2, if_pos ⟨h2.1, by omega, h2.2.2⟩]
      · rw [if_neg h2, if_neg (fun h3 => by
          by_cases hj : j = a + i
          · subst hj; rw [Nat.add_sub_cancel_left] at h3; exact hw h3.2.2
          · exact h2 ⟨h3.1, by omega, h3.2.2⟩)]
theorem flipN_sum {l : List UInt8} {a w : Nat} (h : a + 32 ≤ 8 * l.length) (hw : w < 2 ^ 32) (h0 : w ≠ 0) : sumB (flipN l a w 32) ≠ sumB l := by
  intro hs
  have he := sum_burst a (flipN_len l a w 32) (fun k hk => by rw [flipN_bits l a w 32 h, if_neg (by omega)]) hs
  obtain ⟨i, hi⟩ : ∃ i, w.testBit i = true := by
    obtain ⟨i, hi⟩ := Nat.exists_testBit_of_ne_zero h0
    exact ⟨i, hi⟩
  have hi32 : i < 32 := by
    rcases Nat.lt_or_ge i 32 with h1 | h1
    · exact h1
    · rw [Nat.testBit_lt_two_pow (Nat.lt_of_lt_of_le hw (Nat.pow_le_pow_right (by decide) h1))] at hi; cases hi
  have hb := flipN_bits l a w 32 h (a + i)
  rw [he, if_pos ⟨by omega, by omega, by rw [Nat.add_sub_cancel_left]; exact hi⟩, List.getElem?_eq_getElem (by rw [bitsL_len]; omega)] at hb
  simp at hb
theorem flip1_sum {l : List UInt8} {k : Nat} (hk : k < 8 * l.length) : sumB (flip1 l k) ≠ sumB l := by
  intro hs
  have he := sum_burst (l := flip1 l k) (l' := l) k (flip1_len l k) (fun j hj => by rw [flip1_bits l k j hk, if_neg (by omega)]) hs
  have hb := flip1_bits l k k hk
  rw [he, if_pos rfl, List.getElem?_eq_getElem (by rw [bitsL_len]; omega)] at hb
  simp at hb
/-! frames -/
theorem fourI_be (n : Nat) (h : n < 4294967296) : beN (fourI (n : Int)) = BitVec.ofNat 32 n := by
  have e := of4 (b := fourI (n : Int)) (x := UInt8.ofNat (n / 16777216)) (y := UInt8.ofNat (n / 65536)) (z := UInt8.ofNat (n / 256)) (u := UInt8.ofNat n) (h := by simp [fourI]) rfl rfl rfl rfl
  have h4 : (fourI (n : Int)).take 4 = fourI (n : Int) := rfl
  rw [h4] at e
  apply BitVec.eq_of_toNat_eq
  simp only [BitVec.toNat_ofNat]
  simp only [UInt8.toNat_ofNat'] at e
  generalize (beN _).toNat = m at e ⊢
  rw [V.wrap_u32 (x := ((n / 16777216 % 2 ^ 8 : Nat) : Int) * 256) (by omega) (by omega), V.wrap_u32 (x := ((n / 16777216 % 2 ^ 8 : Nat) : Int) * 256 + ((n / 65536 % 2 ^ 8 : Nat) : Int)) (by omega) (by omega),
    V.wrap_u32 (x := (((n / 16777216 % 2 ^ 8 : Nat) : Int) * 256 + ((n / 65536 % 2 ^ 8 : Nat) : Int)) * 256) (by omega) (by omega),
    V.wrap_u32 (x := (((n / 16777216 % 2 ^ 8 : Nat) : Int) * 256 + ((n / 65536 % 2 ^ 8 : Nat) : Int)) * 256 + ((n / 256 % 2 ^ 8 : Nat) : Int)) (by omega) (by omega),
    V.wrap_u32 (x := ((((n / 16777216 % 2 ^ 8 : Nat) : Int) * 256 + ((n / 65536 % 2 ^ 8 : Nat) : Int)) * 256 + ((n / 256 % 2 ^ 8 : Nat) : Int)) * 256) (by omega) (by omega), V.wrap_u32 (by omega) (by omega)] at e
  omega
theorem firstB_mk (n : Nat) (s : BitVec 32) (r : List UInt8) (hn : n < 4294967296) : firstB (fourI (n : Int) ++ fourI (s.toNat : Int) ++ r) = if n ≠ 0 ∧ n ≤ 65536 ∧ n ≤ r.length ∧ sumB (r.take n) = s then some (r.take n) else none := by
  have e1 : (fourI (n : Int) ++ fourI (s.toNat : Int) ++ r).take 4 = fourI (n : Int) := rfl
  have e2 : ((fourI (n : Int) ++ fourI (s.toNat : Int) ++ r).drop 4).take 4 = fourI (s.toNat : Int) := rfl
  have e3 : (fourI (n : Int) ++ fourI (s.toNat : Int) ++ r).drop 8 = r := rfl
  have e4 : (fourI (n : Int) ++ fourI (s.toNat : Int) ++ r).length = r.length + 8 := by simp [fourI]
  have hs := s.isLt
  have e5 : beN (fourI (s.toNat : Int)) = s := by
    rw [fourI_be _ hs]; exact BitVec.ofNat_toNat _ _ |>.trans (by simp)
  have e6 : (beN (fourI (n : Int))).toNat = n := by
    rw [fourI_be _ hn, BitVec.toNat_ofNat]; omega
  unfold firstB recB
  rw [e1, e2, e3, e4, e5, e6]
  by_cases h : n ≠ 0 ∧ n ≤ 65536 ∧ n ≤ r.length ∧ sumB (r.take n) = s
  · rw [if_pos h, if_pos ⟨by omega, h.1, h.2.1, by omega, h.2.2.2⟩]
  · rw [if_neg h, if_neg (fun h2 => h ⟨h2.2.1, h2.2.2.1, by omega, h2.2.2.2.2⟩)]
def frm (b : List UInt8) : List UInt8 := fourI (b.length : Int) ++ fourI (sumB b).toNat ++ b
theorem frm_len (b : List UInt8) : (frm b).length = b.length + 8 := by simp [frm, fourI]
theorem frmB_ok {b : List UInt8} (h0 : 0 < b.length) (h : b.length ≤ 65536) : frmB b = (frm b, 0) := by unfold frmB frm; rw [if_neg (by omega)]
theorem frmB_no {b : List UInt8} (h : b.length = 0 ∨ 65536 < b.length) : frmB b = ([], 21) := by unfold frmB; rw [if_pos h]
theorem first_frm {b r : List UInt8} (h0 : 0 < b.length) (h : b.length ≤ 65536) : firstB (frm b ++ r) = some b := by
  have := firstB_mk b.length (sumB b) (b ++ r) (by omega)
  unfold frm
  rw [List.append_assoc, this, List.take_left, if_pos ⟨by omega, h, by simp, rfl⟩]
theorem first_frm0 {b : List UInt8} (h0 : 0 < b.length) (h : b.length ≤ 65536) : firstB (frm b) = some b := by
  have := first_frm (r := []) h0 h
  rwa [List.append_nil] at this
theorem whole_frm {b : List UInt8} (h0 : 0 < b.length) (h : b.length ≤ 65536) : wholeB (frm b) = (b, 0) := whole_some (first_frm0 h0 h) (by rw [frm_len]; omega)
theorem scan_frm {b r : List UInt8} (h0 : 0 < b.length) (h : b.length ≤ 65536) : scanB (frm b ++ r) = (b :: (scanB r).1, 8 + b.length + (scanB r).2) := by
  have e : (frm b ++ r).drop (8 + b.length) = r := by
    rw [show 8 + b.length = (frm b).length by rw [frm_len]; omega, List.drop_left]
  rw [scanB_some (first_frm h0 h), e]
theorem first_short {b : List UInt8} (h : b.length ≤ 8) : firstB b = none := first_no (by omega)
/-- a frame that is cut is none -/
theorem first_cut {b : List UInt8} (h : b.length ≤ 65536) {c : Nat} (hc : c < b.length + 8) : firstB ((frm b).take c) = none := by
  by_cases h8 : c ≤ 8
  · exact first_short (by rw [List.length_take]; omega)
  · have e : (frm b).take c = fourI (b.length : Int) ++ fourI ((sumB b).toNat : Int) ++ b.take (c - 8) := by
      unfold frm
      rw [List.take_append, List.take_of_length_le (by simp [fourI]; omega)]
      congr 1
    rw [e, firstB_mk _ _ _ (by omega), if_neg (fun h2 => by have := h2.2.2.1; rw [List.length_take] at this; omega)]
/-- a frame whose record has another sum is none -/
theorem first_other {b r : List UInt8} (h : b.length ≤ 65536) (hl : r.length = b.length) (hs : sumB r ≠ sumB b) (t : List UInt8) : firstB (fourI (b.length : Int) ++ fourI ((sumB b).toNat : Int) ++ (r ++ t)) = none := by
  rw [firstB_mk _ _ _ (by omega), if_neg (fun h2 => hs (by have := h2.2.2.2; rwa [← hl, List.take_left] at this))]
theorem flip1_app (h l : List UInt8) (k : Nat) : flip1 (h ++ l) (8 * h.length + k) = h ++ flip1 l k := by
  unfold flip1
  have e1 : (8 * h.length + k) / 8 = h.length + k / 8 := by omega
  have e2 : (8 * h.length + k) % 8 = k % 8 := by omega
  rw [e1, e2, List.set_append_right _ _ (by omega), Nat.add_sub_cancel_left]
  congr 3
  rw [List.getD_eq_getElem?_getD, List.getD_eq_getElem?_getD, List.getElem?_append_right (by omega), Nat.add_sub_cancel_left]
theorem flip1_left (h l : List UInt8) (k : Nat) (hk : k < 8 * h.length) : flip1 (h ++ l) k = flip1 h k ++ l := by
  unfold flip1
  rw [List.set_append_left _ _ (by omega)]
  congr 3
  rw [List.getD_eq_getElem?_getD, List.getD_eq_getElem?_getD, List.getElem?_append_left (by omega)]
theorem flipN_app (h l : List UInt8) (a w : Nat) : ∀ i, flipN (h ++ l) (8 * h.length + a) w i = h ++ flipN l a w i
  | 0 => rfl
  | i + 1 => by
    rw [flipN, flipN, flipN_app h l a w i]
    split
    · rw [Nat.add_assoc, flip1_app]
    · rfl
theorem first_turned {b : List UInt8} (h0 : 0 < b.length) (h : b.length ≤ 65536) {a w : Nat} (ha : a + 32 ≤ 8 * b.length) (hw : w < 2 ^ 32) (hw0 : w ≠ 0) : firstB (flipN (frm b) (64 + a) w 32) = none := by
  have e := flipN_app (fourI (b.length : Int) ++ fourI ((sumB b).toNat : Int)) b a w 32
  rw [show 8 * (fourI (b.length : Int) ++ fourI ((sumB b).toNat : Int)).length = 64 by simp [fourI]] at e
  unfold frm
  rw [e]
  have := first_other (b := b) (r := flipN b a w 32) h (flipN_len _ _ _ _) (flipN_sum ha hw hw0) []
  rwa [List.append_nil] at this
theorem first_flip {b t : List UInt8} (h : b.length ≤ 65536) {k : Nat} (hk : k < 8 * b.length) : firstB (flip1 (frm b) (64 + k) ++ t) = none := by
  have e := flip1_app (fourI (b.length : Int) ++ fourI ((sumB b).toNat : Int)) b k
  rw [show 8 * (fourI (b.length : Int) ++ fourI ((sumB b).toNat : Int)).length = 64 by simp [fourI]] at e
  unfold frm
  rw [e, List.append_assoc]
  exact first_other (b := b) (r := flip1 b k) h (flip1_len _ _) (flip1_sum hk) t
theorem frm_inj {b c : List UInt8} (h : frm b = frm c) : b = c := by
  have := congrArg (List.drop 8) h
  exact this


theorem tmod_abs (a : Int) (n : Nat) (h : 0 < n) : -(n : Int) < a.tmod n ∧ a.tmod n < n := by
  have := Int.natAbs_tmod a n
  have h2 : a.natAbs % n < n := Nat.mod_lt _ h
  simp only [Int.natAbs_natCast] at this
  omega
theorem bit_cond (w : Int) (i : Nat) (h0 : 0 ≤ w) (h1 : w < 4294967296) (hi : i < 32) : ((w.fdiv (2 ^ min (i : Int).toNat IntKind.u32.bits)).tmod 2 = 1) ↔ w.toNat.testBit i = true := by
  obtain ⟨m, rfl⟩ := Int.eq_ofNat_of_zero_le h0
  have e1 : min (i : Int).toNat IntKind.u32.bits = i := by simp [IntKind.bits]; omega
  have e2 : ((m : Int)).fdiv (2 ^ i) = ((m / 2 ^ i : Nat) : Int) := by
    rw [Int.fdiv_eq_ediv_of_nonneg _ (Int.le_of_lt (Int.pow_pos (by decide)))]; simp
  rw [e1, e2, Int.tmod_eq_emod_of_nonneg (Int.natCast_nonneg _), Int.toNat_natCast, Nat.testBit_eq_decide_div_mod_eq, decide_eq_true_eq]
  generalize m / 2 ^ i = q
  omega
theorem flip_byte (x : UInt8) (k : Nat) : Go.bits .xor .u8 (x.toNat : Int) (IntKind.u8.wrap (1 * 2 ^ min ((k % 8 : Nat) : Int).toNat IntKind.u8.bits)) = ((x ^^^ UInt8.ofNat (2 ^ (k % 8))).toNat : Int) := by
  have e1 : min ((k % 8 : Nat) : Int).toNat IntKind.u8.bits = k % 8 := by simp [IntKind.bits]; omega
  have h7 : k % 8 < 8 := Nat.mod_lt _ (by decide)
  have e2 : IntKind.u8.wrap (1 * 2 ^ (k % 8)) = ((UInt8.ofNat (2 ^ (k % 8))).toNat : Int) := by
    generalize k % 8 = q at h7
    match q, h7 with
    | 0, _ => rfl
    | 1, _ => rfl
    | 2, _ => rfl
    | 3, _ => rfl
    | 4, _ => rfl
    | 5, _ => rfl
    | 6, _ => rfl
    | 7, _ => rfl
  rw [e1, e2, V.xor8]
theorem flip_set {L : List UInt8} {j k : Nat} {x : UInt8} (hj : j = k / 8) (hlt : j < L.length) (hx : L[j] = x) : L.set j (x ^^^ UInt8.ofNat (2 ^ (k % 8))) = flip1 L k := by
  subst hj
  rw [flip1, List.getD_eq_getElem?_getD, List.getElem?_eq_getElem hlt, Option.getD_some, hx]

theorem frm_of {b : List UInt8} (h : ¬ (frmB b).2 = 0 → False) : frmB b = (frm b, 0) ∧ 0 < b.length ∧ b.length ≤ 65536 := by
  by_cases h2 : b.length = 0 ∨ 65536 < b.length
  · exact (h (by rw [frmB_no h2]; decide)).elim
  · exact ⟨frmB_ok (by omega) (by omega), by omega, by omega⟩

set_option maxHeartbeats 300000 in
set_option maxRecDepth 10000 in
theorem sealTurned_walk {w : World}  {D_b : Nat → Prop} {c_b : Nat} {a_b : Option Addr} {b : List UInt8} (F_b : Sl V.Cod.byte w D_b a_b c_b b) (hD_b : ∀ k, D_b k → k < w.heap.size) {a0 : Int} {a1 : Int} {w0 : Int} (hw : 0 ≤ w0 ∧ w0 ≤ 4294967295) :
    Meets Try.prog 6 [.slice a_b b.length c_b, .agg #[.int .i64 a0, .int .i64 a1], .int .u32 w0] w fun r w' => r = .bool true ∧ Gr w w' := by
 have HG := V.Fr.refl [] w
 refine V.enter (n := 132) Try.func6 rfl rfl (by decide) rfl ?_
 refine V.seq ?_
 refine V.region ?_
 refine V.box rfl rfl rfl rfl ?_
 rintro k1 w3 s5 s6 G4 Fk2
 have z7 := V.Fr.size G4
 try replace F_b := F_b.gr G4
 replace HG := HG.grow G4
 clear G4
 try simp only [V.cellsL, V.spliceL] at Fk2
 refine V.run T_ok 1 rfl ?_
 refine V.nil ?_
 refine V.tN ?_
 refine V.seq ?_
 refine V.region ?_
 refine V.run T_ok 1 rfl ?_
 refine V.call (frame_spec F_b (fun k hk => by have := hD_b k hk; omega)) rfl rfl rfl ?_
 rintro _ w11 ⟨a8, c9, rfl, F10, G12⟩
 have z13 := V.Fr.size G12
 try replace F_b := F_b.gr G12
 try replace Fk2 := Fk2.gr G12
 replace HG := HG.grow G12
 clear G12
 refine V.run T_ok 5 rfl ?_
 refine V.nil ?_
 refine V.tN ?_
 refine V.seq ?_
 refine V.seq ?_
 refine V.region ?_
 refine V.run T_ok 4 rfl ?_
 refine V.orG T_ok 2 3 27 rfl rfl rfl rfl rfl rfl rfl rfl ?_
 refine V.nil ?_
 refine V.tN ?_
 refine V.condT rfl (fun h2 => ?_) (fun h2 => ?_)
 ·
  try replace h2 := V.dec h2
  try simp only [V.mk0, V.mk1, V.mk2, V.mk3] at h2
  refine V.seq ?_
  refine V.region ?_
  refine V.call (alive_spec) rfl rfl rfl ?_
  rintro _ w14 ⟨rfl, G15⟩
  have z16 := V.Fr.size G15
  try replace F_b := F_b.gr G15
  try replace Fk2 := Fk2.gr G15
  try replace F10 := F10.gr G15
  replace HG := HG.grow G15
  clear G15
  refine V.run T_ok 1 rfl ?_
  refine V.nil ?_
  refine V.tN ?_
  refine V.ret ?_
  refine V.tR ?_
  refine V.done rfl ?_
  exact ⟨congrArg Value.bool (by first | rfl | (rw [scanB_none hft]; rfl)), HG⟩
 ·
  try replace h2 := V.dec h2
  try simp only [V.mk0, V.mk1, V.mk2, V.mk3] at h2
  refine V.skip ?_
  refine V.tN ?_
  refine V.seq ?_
  refine V.seq ?_
  have hfr := frm_of (b := b) (by omega)
  have hfr1 : (frmB b).1 = frm b := by rw [hfr.1]
  rw [hfr1] at F10 ⊢
  have hfl := frm_len b
  refine V.region ?_
  refine V.run T_ok 3 rfl ?_
  refine V.nil ?_
  refine V.tN ?_
  refine V.condN rfl (by exact decide_eq_false (by omega)) ?_
  refine V.skip ?_
  refine V.tN ?_
  refine V.seq ?_
  refine V.region ?_
  refine V.elemP T_ok rfl rfl rfl rfl rfl rfl (by first | omega | decide) (by first | omega | decide) ?_
  refine V.loadO T_ok Fk2 rfl rfl rfl rfl rfl ?_
  refine V.run T_ok 2 rfl ?_
  first | refine V.remN rfl rfl rfl rfl rfl (by first | omega | (simp only [List.length_take, List.length_drop, List.length_append, List.length_cons, List.length_nil, List.length_replicate, List.length_set, V.length_data, V.S_size]; omega)) (by first | omega | (simp only [List.length_take, List.length_drop, List.length_append, List.length_cons, List.length_nil, List.length_replicate, List.length_set, V.length_data, V.S_size]; omega)) ?_ | refine V.run T_ok 1 rfl ?_
  have htm := tmod_abs a1 (frm b).length (by omega)
  refine V.run T_ok 1 rfl ?_
  refine V.nil ?_
  refine V.tN ?_
  refine V.seq ?_
  refine V.seq ?_
  refine V.region ?_
  refine V.run T_ok 2 rfl ?_
  refine V.nil ?_
  refine V.tN ?_
  refine V.condT rfl (fun h7 => ?_) (fun h7 => ?_)
  ·
   try replace h7 := V.dec h7
   try simp only [V.mk0, V.mk1, V.mk2, V.mk3] at h7
   refine V.region ?_
   refine V.run T_ok 1 rfl ?_
   refine V.run T_ok 1 rfl ?_
   rw [V.wrap_in (x := 0 - Int.tmod a1 ((frm b).length : Int)) (by omega) (by omega)]
   refine V.run T_ok 1 rfl ?_
   refine V.nil ?_
   refine V.tN ?_
   refine V.seq ?_
   refine V.region ?_
   refine V.run T_ok 2 rfl ?_
   refine V.cutL T_ok F10.sl rfl rfl sz5 rfl rfl rfl rfl (by first | omega | (simp only [List.length_take, List.length_drop, List.length_append, List.length_cons, List.length_nil, List.length_replicate, List.length_set, V.length_data, V.S_size]; omega)) (by first | omega | (simp only [List.length_take, List.length_drop, List.length_append, List.length_cons, List.length_nil, List.length_replicate, List.length_set, V.length_data, V.S_size]; omega)) (fun a17 F19 => ?_)
   refine V.call (whole_spec F19 (fun k hk => by have := hk.2; omega)) rfl rfl rfl ?_
   rintro _ w23 ⟨a20, c21, rfl, F22, G24⟩
   have z25 := V.Fr.size G24
   try replace F_b := F_b.gr G24
   try replace Fk2 := Fk2.gr G24
   try replace F10 := F10.gr G24
   try replace F19 := F19.gr G24
   replace HG := HG.grow G24
   clear G24
   refine V.run T_ok 5 rfl ?_
   refine V.nil ?_
   refine V.tN ?_
   refine V.seq ?_
   refine V.seq ?_
   have hwc : wholeB ((frm b).take (0 - Int.tmod a1 ((frm b).length : Int)).toNat) = ([], 21) := whole_none (first_cut (by omega) (by omega))
   rw [hwc] at F22 ⊢
   refine V.region ?_
   refine V.run T_ok 3 rfl ?_
   refine V.yes rfl rfl rfl ?_
   refine V.elemP T_ok rfl rfl rfl rfl rfl rfl (by first | omega | decide) (by first | omega | decide) ?_
   refine V.yes rfl rfl rfl ?_
   refine V.loadO T_ok Fk2 rfl rfl rfl rfl rfl ?_
   refine V.run T_ok 3 rfl ?_
   refine V.split (j := 7) (t := 58) rfl rfl (fun g10_7 => ?_) (fun g10_7 => ?_)
   ·
    try replace g10_7 := V.dec g10_7
    try simp only [V.mk0, V.mk1, V.mk2, V.mk3] at g10_7
    refine V.run T_ok 12 rfl ?_
    refine V.nil ?_
    refine V.tN ?_
    refine V.condY rfl rfl ?_
    refine V.seq ?_
    refine V.region ?_
    refine V.call (alive_spec) rfl rfl rfl ?_
    rintro _ w26 ⟨rfl, G27⟩
    have z28 := V.Fr.size G27
    try replace F_b := F_b.gr G27
    try replace Fk2 := Fk2.gr G27
    try replace F10 := F10.gr G27
    try replace F19 := F19.gr G27
    try replace F22 := F22.gr G27
    replace HG := HG.grow G27
    clear G27
    refine V.run T_ok 5 rfl ?_
    refine V.nil ?_
    refine V.tN ?_
    refine V.ret ?_
    refine V.tR ?_
    refine V.done rfl ?_
    exact ⟨congrArg Value.bool (by first | rfl | (rw [scanB_none hft]; rfl)), HG⟩
   ·
    try replace g10_7 := V.dec g10_7
    try simp only [V.mk0, V.mk1, V.mk2, V.mk3] at g10_7
    refine V.yes rfl rfl rfl ?_
    refine V.elemP T_ok rfl rfl rfl rfl rfl rfl (by first | omega | decide) (by first | omega | decide) ?_
    refine V.yes rfl rfl rfl ?_
    refine V.loadO T_ok Fk2 rfl rfl rfl rfl rfl ?_
    refine V.run T_ok 2 rfl ?_
    refine V.yes rfl rfl rfl ?_
    refine V.mulN rfl rfl rfl rfl rfl (by first | omega | (simp only [List.length_take, List.length_drop, List.length_append, List.length_cons, List.length_nil, List.length_replicate, List.length_set, V.length_data, V.S_size]; omega)) (by first | omega | (simp only [List.length_take, List.length_drop, List.length_append, List.length_cons, List.length_nil, List.length_replicate, List.length_set, V.length_data, V.S_size]; omega)) ?_
    refine V.yes rfl rfl rfl ?_
    refine V.subN rfl rfl rfl rfl rfl (by first | omega | (simp only [List.length_take, List.length_drop, List.length_append, List.length_cons, List.length_nil, List.length_replicate, List.length_set, V.length_data, V.S_size]; omega)) (by first | omega | (simp only [List.length_take, List.length_drop, List.length_append, List.length_cons, List.length_nil, List.length_replicate, List.length_set, V.length_data, V.S_size]; omega)) ?_
    refine V.run T_ok 3 rfl ?_
    refine V.orG T_ok 2 16 67 rfl rfl rfl rfl rfl rfl rfl rfl ?_
    refine V.nil ?_
    refine V.tN ?_
    refine V.condT rfl (fun h10 => ?_) (fun h10 => ?_)
    ·
     try replace h10 := V.dec h10
     try simp only [V.mk0, V.mk1, V.mk2, V.mk3] at h10
     refine V.seq ?_
     refine V.region ?_
     refine V.call (alive_spec) rfl rfl rfl ?_
     rintro _ w29 ⟨rfl, G30⟩
     have z31 := V.Fr.size G30
     try replace F_b := F_b.gr G30
     try replace Fk2 := Fk2.gr G30
     try replace F10 := F10.gr G30
     try replace F19 := F19.gr G30
     try replace F22 := F22.gr G30
     replace HG := HG.grow G30
     clear G30
     refine V.run T_ok 5 rfl ?_
     refine V.nil ?_
     refine V.tN ?_
     refine V.ret ?_
     refine V.tR ?_
     refine V.done rfl ?_
     exact ⟨congrArg Value.bool (by first | rfl | (rw [scanB_none hft]; rfl)), HG⟩
    ·
     try replace h10 := V.dec h10
     try simp only [V.mk0, V.mk1, V.mk2, V.mk3] at h10
     refine V.skip ?_
     refine V.tN ?_
     refine V.seq ?_
     refine V.region ?_
     refine V.mkSlice T_ok zero5 rfl rfl sz5 rfl rfl rfl rfl rfl rfl ?_
     rintro k32 w35 s37 s38 G36 Fk33
     have z39 := V.Fr.size G36
     try replace F_b := F_b.gr G36
     try replace Fk2 := Fk2.gr G36
     try replace F10 := F10.gr G36
     try replace F19 := F19.gr G36
     try replace F22 := F22.gr G36
     replace HG := HG.grow G36
     clear G36
     have F34 := V.rowOfB (xs := ([] : List UInt8)) Fk33 rfl rfl
     clear Fk33
     refine V.run T_ok 1 rfl ?_
     refine V.appendR (F34) (V.From.flat V.flat_byte (D' := V.None') (F10.sl.from Try.underlying23)) elT23_23 rfl rfl rfl rfl rfl (by first | omega | (simp only [List.length_take, List.length_drop, List.length_append, List.length_cons, List.length_nil, List.length_replicate, List.length_set, V.length_data, V.S_size]; omega)) (by unfold maxLen; first | omega | (simp only [List.length_take, List.length_drop, List.length_append, List.length_cons, List.length_nil, List.length_replicate, List.length_set, V.length_data, V.S_size]; omega)) (by omega) (by omega) (fun _ h => h.elim) (fun _ h => h.elim) ?_
     rintro a40 c41 w43 G44 s45 F42
     clear F34
     have z46 := Go.RowKit.Below.size G44
     first | replace F_b := V.Sl.bl F_b G44 (by first | exact (fun _ h => by have := h.2; omega) | (intro k h; have := hD_b k h; omega)) | clear F_b | skip
     first | replace Fk2 := V.Cells.bl Fk2 G44 (by omega) | clear Fk2 | skip
     first | replace F10 := V.Row.bl F10 G44 (by first | exact ⟨fun _ h => h.elim, by omega⟩ | exact ⟨fun _ h => by have := h.2; omega, by omega⟩) | clear F10 | skip
     first | replace F19 := V.Sl.bl F19 G44 (by first | exact (fun _ h => by have := h.2; omega) | (intro k h; have := hD k h; omega)) | clear F19 | skip
     first | replace F22 := V.Row.bl F22 G44 (by first | exact ⟨fun _ h => h.elim, by omega⟩ | exact ⟨fun _ h => by have := h.2; omega, by omega⟩) | clear F22 | skip
     replace HG := HG.bl (Go.RowKit.Below.mono G44 (by omega))
     clear G44
     rw [List.nil_append] at F42 ⊢
     refine V.run T_ok 1 rfl ?_
     refine V.nil ?_
     refine V.tN ?_
     refine V.seq ?_
     refine V.seq ?_
     refine V.region ?_
     refine V.run T_ok 1 rfl ?_
     refine V.nil ?_
     refine V.tN ?_
     refine V.block ?_
     refine V.loopM (fun m e v49 => Fr [] w v49 ∧ w43.heap.size ≤ v49.heap.size ∧ Sl V.Cod.byte v49 D_b a_b c_b b ∧ Cells v49 k1 [.int .i64 a0, .int .i64 a1] 38 ∧ V.Row V.Cod.byte 5 v49 V.None' w3.heap.size w11.heap.size a8 c9 (frm b) ∧ Sl V.Cod.byte v49 (V.In w3.heap.size w11.heap.size) a17 c9 ((frm b).take (0 - Int.tmod a1 ((frm b).length : Int)).toNat) ∧ V.Row V.Cod.byte 5 v49 V.None' w11.heap.size w23.heap.size a20 c21 ([] : List UInt8) ∧ ∃ (i : Nat) , m = 32 - i ∧ i ≤ 32 ∧ V.Row V.Cod.byte 5 v49 V.None' k32 w43.heap.size a40 c41 (flipN (frm b) (64 + a0.toNat) w0.toNat i) ∧ e 2 = .int .u32 w0 ∧ e 4 = .pointer (some ⟨k1, 0, none⟩) ∧ e 12 = .slice a40 (frm b).length c41 ∧ e 13 = .int .i64 (i : Int)) ?_ ?_
     ·
      exact ⟨_, HG, (by omega), F_b, Fk2, F10, F19, F22, (0), rfl, (Nat.zero_le _), F42.re, rfl, rfl, rfl, rfl⟩
     try clear F42
     clear HG F_b Fk2 F10 F19 F22
     rintro _ e v49 ⟨HG, z50, F_b, Fk2, F10, F19, F22, i, rfl, hi, F47, he0_2, he0_4, he0_12, he0_13⟩
     refine V.knownC (t := 2) he0_2 ?_
     refine V.knownC (t := 4) he0_4 ?_
     refine V.knownC (t := 12) he0_12 ?_
     refine V.knownC (t := 13) he0_13 ?_
     refine V.seq ?_
     refine V.seq ?_
     refine V.region ?_
     refine V.run T_ok 2 rfl ?_
     refine V.nil ?_
     refine V.tN ?_
     refine V.condT rfl (fun h14 => ?_) (fun h14 => ?_)
     ·
      try replace h14 := V.dec h14
      try simp only [V.mk0, V.mk1, V.mk2, V.mk3] at h14
      refine V.skip ?_
      refine V.tN ?_
      refine V.seq ?_
      refine V.block ?_
      refine V.seq ?_
      have hfn := flipN_len (frm b) (64 + a0.toNat) w0.toNat i
      refine V.region ?_
      refine V.run T_ok 2 rfl ?_
      first | refine V.cnvN T_ok rfl rfl rfl rfl rfl rfl (V.wrap_u64 (by omega) (by omega)) ?_ | refine V.run T_ok 1 rfl ?_
      refine V.shrN rfl rfl rfl rfl rfl (by first | omega | (simp only [List.length_take, List.length_drop, List.length_append, List.length_cons, List.length_nil, List.length_replicate, List.length_set, V.length_data, V.S_size]; omega)) ?_
      refine V.run T_ok 2 rfl ?_
      refine V.nil ?_
      refine V.tN ?_
      refine V.condT rfl (fun h16 => ?_) (fun h16 => ?_)
      ·
       try replace h16 := V.dec h16
       try simp only [V.mk0, V.mk1, V.mk2, V.mk3] at h16
       refine V.seq ?_
       refine V.region ?_
       refine V.elemP T_ok rfl rfl rfl rfl rfl rfl (by first | omega | decide) (by first | omega | decide) ?_
       refine V.loadO T_ok Fk2 rfl rfl rfl rfl rfl ?_
       refine V.addN rfl rfl rfl rfl rfl (by first | omega | (simp only [List.length_take, List.length_drop, List.length_append, List.length_cons, List.length_nil, List.length_replicate, List.length_set, V.length_data, V.S_size]; omega)) (by first | omega | (simp only [List.length_take, List.length_drop, List.length_append, List.length_cons, List.length_nil, List.length_replicate, List.length_set, V.length_data, V.S_size]; omega)) ?_
       refine V.run T_ok 1 rfl ?_
       refine V.addN rfl rfl rfl rfl rfl (by first | omega | (simp only [List.length_take, List.length_drop, List.length_append, List.length_cons, List.length_nil, List.length_replicate, List.length_set, V.length_data, V.S_size]; omega)) (by first | omega | (simp only [List.length_take, List.length_drop, List.length_append, List.length_cons, List.length_nil, List.length_replicate, List.length_set, V.length_data, V.S_size]; omega)) ?_
       refine V.run T_ok 1 rfl ?_
       refine V.nil ?_
       refine V.tN ?_
       refine V.region ?_
       refine V.run T_ok 2 rfl ?_
       first | refine V.quoN rfl rfl rfl rfl rfl (by first | omega | (simp only [List.length_take, List.length_drop, List.length_append, List.length_cons, List.length_nil, List.length_replicate, List.length_set, V.length_data, V.S_size]; omega)) (by first | omega | (simp only [List.length_take, List.length_drop, List.length_append, List.length_cons, List.length_nil, List.length_replicate, List.length_set, V.length_data, V.S_size]; omega)) (by first | omega | (simp only [List.length_take, List.length_drop, List.length_append, List.length_cons, List.length_nil, List.length_replicate, List.length_set, V.length_data, V.S_size]; omega)) ?_ | refine V.run T_ok 1 rfl ?_
       refine V.run T_ok 2 rfl ?_
       first | refine V.quoN rfl rfl rfl rfl rfl (by first | omega | (simp only [List.length_take, List.length_drop, List.length_append, List.length_cons, List.length_nil, List.length_replicate, List.length_set, V.length_data, V.S_size]; omega)) (by first | omega | (simp only [List.length_take, List.length_drop, List.length_append, List.length_cons, List.length_nil, List.length_replicate, List.length_set, V.length_data, V.S_size]; omega)) (by first | omega | (simp only [List.length_take, List.length_drop, List.length_append, List.length_cons, List.length_nil, List.length_replicate, List.length_set, V.length_data, V.S_size]; omega)) ?_ | refine V.run T_ok 1 rfl ?_
       obtain ⟨g56, hg56l, hg56u, F57⟩ := V.Row.own1 V.flat_byte F47 (by first | omega | (simp only [List.length_take, List.length_drop, List.length_append, List.length_cons, List.length_nil, List.length_replicate, List.length_set, V.length_data, V.S_size]; omega))
       clear F47
       refine V.elemO' T_ok F57 (by first | rfl | (first | omega | (simp only [List.length_take, List.length_drop, List.length_append, List.length_cons, List.length_nil, List.length_replicate, List.length_set, V.length_data, V.S_size]; omega))) rfl rfl sz5 rfl rfl rfl rfl (by first | omega | (simp only [List.length_take, List.length_drop, List.length_append, List.length_cons, List.length_nil, List.length_replicate, List.length_set, V.length_data, V.S_size]; omega)) (by first | omega | (simp only [List.length_take, List.length_drop, List.length_append, List.length_cons, List.length_nil, List.length_replicate, List.length_set, V.length_data, V.S_size]; omega)) ?_
       rintro hx52
       obtain ⟨cs55, hR53, hA54⟩ := V.Own.el F57 hx52
       obtain ⟨x51, hx51⟩ : ∃ z', (flipN (frm b) (64 + a0.toNat) w0.toNat i)[(((64 + a0) + (i : Int)) / 8).toNat] = z' := ⟨_, rfl⟩
       rw [hx51] at hR53
       obtain rfl := hR53
       try simp only [Int.toNat_natCast] at hx51 hx52
       refine V.loadA T_ok (o0 := (((64 + a0) + (i : Int)) / 8).toNat * V.Cod.byte.sz) (off := 0) hA54 rfl rfl rfl rfl rfl ?_
       refine V.run T_ok 1 rfl ?_
       first | refine V.remN rfl rfl rfl rfl rfl (by first | omega | (simp only [List.length_take, List.length_drop, List.length_append, List.length_cons, List.length_nil, List.length_replicate, List.length_set, V.length_data, V.S_size]; omega)) (by first | omega | (simp only [List.length_take, List.length_drop, List.length_append, List.length_cons, List.length_nil, List.length_replicate, List.length_set, V.length_data, V.S_size]; omega)) ?_ | refine V.run T_ok 1 rfl ?_
       first | refine V.cnvN T_ok rfl rfl rfl rfl rfl rfl (V.wrap_u64 (by omega) (by omega)) ?_ | refine V.run T_ok 1 rfl ?_
       refine V.shlN rfl rfl rfl rfl rfl (by first | omega | (simp only [List.length_take, List.length_drop, List.length_append, List.length_cons, List.length_nil, List.length_replicate, List.length_set, V.length_data, V.S_size]; omega)) ?_
       refine V.run T_ok 1 rfl ?_
       refine V.elemO' T_ok F57 (by first | rfl | (first | omega | (simp only [List.length_take, List.length_drop, List.length_append, List.length_cons, List.length_nil, List.length_replicate, List.length_set, V.length_data, V.S_size]; omega))) rfl rfl sz5 rfl rfl rfl rfl (by first | omega | (simp only [List.length_take, List.length_drop, List.length_append, List.length_cons, List.length_nil, List.length_replicate, List.length_set, V.length_data, V.S_size]; omega)) (by first | omega | (simp only [List.length_take, List.length_drop, List.length_append, List.length_cons, List.length_nil, List.length_replicate, List.length_set, V.length_data, V.S_size]; omega)) ?_
       rintro hx59
       obtain ⟨cs62, hR60, hA61⟩ := V.Own.el F57 hx59
       obtain ⟨x58, hx58⟩ : ∃ z', (flipN (frm b) (64 + a0.toNat) w0.toNat i)[(((64 + a0) + (i : Int)) / 8).toNat] = z' := ⟨_, rfl⟩
       rw [hx58] at hR60
       obtain rfl := hR60
       try simp only [Int.toNat_natCast] at hx58 hx59
       refine V.storeS (D' := V.None') (j := (((64 + a0) + (i : Int)) / 8).toNat) (x' := (x51 ^^^ UInt8.ofNat (2 ^ (((64 + a0.toNat) + i) % 8)))) V.flat_byte F57 rfl rfl rfl (by first | omega | (simp only [List.length_take, List.length_drop, List.length_append, List.length_cons, List.length_nil, List.length_replicate, List.length_set, V.length_data, V.S_size]; omega)) rfl (V.cb1 (by rw [show (((64 : Int) + a0) + (i : Int)) % 8 = ((((64 + a0.toNat) + i) % 8 : Nat) : Int) by omega]; exact flip_byte x51 _)) rfl sz5 rfl rfl ?_
       rintro w63 G64 z65 Fnew
       clear F57
       have z66 := V.Fr.size G64
       first | replace F_b := F_b.mb G64 hD_b | clear F_b | skip
       first | replace Fk2 := Fk2.mv1 G64 (by omega) | clear Fk2 | skip
       first | replace F10 := F10.ma G64 | clear F10 | skip
       first | replace F19 := F19.ma G64 | clear F19 | skip
       first | replace F22 := F22.ma G64 | clear F22 | skip
       replace HG := HG.n1 G64
       clear G64
       have F57 := Fnew; clear Fnew
       refine V.nil ?_
       refine V.bN ?_
       refine V.tN ?_
       refine V.region ?_
       refine V.run T_ok 1 rfl ?_
       refine V.addN rfl rfl rfl rfl rfl (by first | omega | (simp only [List.length_take, List.length_drop, List.length_append, List.length_cons, List.length_nil, List.length_replicate, List.length_set, V.length_data, V.S_size]; omega)) (by first | omega | (simp only [List.length_take, List.length_drop, List.length_append, List.length_cons, List.length_nil, List.length_replicate, List.length_set, V.length_data, V.S_size]; omega)) ?_
       refine V.run T_ok 1 rfl ?_
       refine V.nil ?_
       refine V.tN ?_
       have hr67 : (flipN (frm b) (64 + a0.toNat) w0.toNat i).set ((((64 + a0) + (i : Int)) / 8).toNat) (x51 ^^^ UInt8.ofNat (2 ^ (((64 + a0.toNat) + i) % 8))) = (flipN (frm b) (64 + a0.toNat) w0.toNat (i + 1)) := by rw [flipN, if_pos ((bit_cond w0 i (by omega) (by omega) (by omega)).1 h16)]; exact flip_set (by omega) (by omega) hx51
       rw [hr67] at F57
       clear hr67
       exact ⟨_, (by omega), HG, (by omega), F_b, Fk2, F10, F19, F22, (i + 1), rfl, (by omega), (by first | exact (V.Row.back F57 hg56l hg56u) | exact (V.Row.back F57 hg56l hg56u).mono (fun _ h => h) (by omega) (by omega)), rfl, rfl, rfl, rfl⟩
      ·
       try replace h16 := V.dec h16
       try simp only [V.mk0, V.mk1, V.mk2, V.mk3] at h16
       refine V.skip ?_
       refine V.bN ?_
       refine V.tN ?_
       refine V.region ?_
       refine V.run T_ok 1 rfl ?_
       refine V.addN rfl rfl rfl rfl rfl (by first | omega | (simp only [List.length_take, List.length_drop, List.length_append, List.length_cons, List.length_nil, List.length_replicate, List.length_set, V.length_data, V.S_size]; omega)) (by first | omega | (simp only [List.length_take, List.length_drop, List.length_append, List.length_cons, List.length_nil, List.length_replicate, List.length_set, V.length_data, V.S_size]; omega)) ?_
       refine V.run T_ok 1 rfl ?_
       refine V.nil ?_
       refine V.tN ?_
       have hr68 : (flipN (frm b) (64 + a0.toNat) w0.toNat i) = (flipN (frm b) (64 + a0.toNat) w0.toNat (i + 1)) := by rw [flipN, if_neg (fun h => h16 ((bit_cond w0 i (by omega) (by omega) (by omega)).2 h))]
       rw [hr68] at F47
       clear hr68
       exact ⟨_, (by omega), HG, (by omega), F_b, Fk2, F10, F19, F22, (i + 1), rfl, (by omega), F47.re, rfl, rfl, rfl, rfl⟩
     ·
      try replace h14 := V.dec h14
      try simp only [V.mk0, V.mk1, V.mk2, V.mk3] at h14
      refine V.exit ?_
      refine V.tX ?_
      refine V.tX ?_
      refine V.bE ?_
      refine V.tN ?_
      refine V.seq ?_
      rw [show ((frm b)).length = ((flipN (frm b) (64 + a0.toNat) w0.toNat i)).length by rw [flipN_len]]
      have hfn := flipN_len (frm b) (64 + a0.toNat) w0.toNat i
      have hft : firstB (flipN (frm b) (64 + a0.toNat) w0.toNat i) = none := by rw [show i = 32 by omega]; exact first_turned (by omega) (by omega) (by omega) (by omega) (by omega)
      refine V.region ?_
      refine V.run T_ok 1 rfl ?_
      refine V.call (whole_spec F47.sl (fun k hk => by have := hk.2; omega)) rfl rfl rfl ?_
      rintro _ w72 ⟨a69, c70, rfl, F71, G73⟩
      have z74 := V.Fr.size G73
      try replace F_b := F_b.gr G73
      try replace Fk2 := Fk2.gr G73
      try replace F10 := F10.gr G73
      try replace F19 := F19.gr G73
      try replace F22 := F22.gr G73
      try replace F47 := F47.gr G73
      replace HG := HG.grow G73
      clear G73
      refine V.run T_ok 5 rfl ?_
      refine V.nil ?_
      refine V.tN ?_
      refine V.seq ?_
      refine V.region ?_
      refine V.run T_ok 1 rfl ?_
      refine V.call (scan_spec F47.sl (fun k hk => by have := hk.2; omega) (by first | omega | (simp only [List.length_take, List.length_drop, List.length_append, List.length_cons, List.length_nil, List.length_replicate, List.length_set, V.length_data, V.S_size]; omega))) rfl rfl rfl ?_
      rintro _ w78 ⟨a75, c76, rfl, F77, G79⟩
      have z80 := V.Fr.size G79
      try replace F_b := F_b.gr G79
      try replace Fk2 := Fk2.gr G79
      try replace F10 := F10.gr G79
      try replace F19 := F19.gr G79
      try replace F22 := F22.gr G79
      try replace F47 := F47.gr G79
      try replace F71 := F71.gr G79
      replace HG := HG.grow G79
      clear G79
      refine V.run T_ok 5 rfl ?_
      refine V.nil ?_
      refine V.tN ?_
      refine V.seq ?_
      refine V.region ?_
      refine V.call (alive_spec) rfl rfl rfl ?_
      rintro _ w81 ⟨rfl, G82⟩
      have z83 := V.Fr.size G82
      try replace F_b := F_b.gr G82
      try replace Fk2 := Fk2.gr G82
      try replace F10 := F10.gr G82
      try replace F19 := F19.gr G82
      try replace F22 := F22.gr G82
      try replace F47 := F47.gr G82
      try replace F71 := F71.gr G82
      try replace F77 := F77.gr G82
      replace HG := HG.grow G82
      clear G82
      refine V.run T_ok 5 rfl ?_
      refine V.splitT (j := 5) (t := 123) rfl rfl (by (rw [whole_none hft]; rfl)) ?_
      refine V.run T_ok 5 rfl ?_
      refine V.splitT (j := 10) (t := 128) rfl rfl (by (rw [scanB_none hft]; rfl)) ?_
      refine V.run T_ok 4 rfl ?_
      refine V.nil ?_
      refine V.tN ?_
      refine V.ret ?_
      refine V.done rfl ?_
      exact ⟨congrArg Value.bool (by first | rfl | (rw [scanB_none hft]; rfl)), HG⟩
  ·
   try replace h7 := V.dec h7
   try simp only [V.mk0, V.mk1, V.mk2, V.mk3] at h7
   refine V.skip ?_
   refine V.tN ?_
   refine V.seq ?_
   refine V.region ?_
   refine V.run T_ok 2 rfl ?_
   refine V.cutL T_ok F10.sl rfl rfl sz5 rfl rfl rfl rfl (by first | omega | (simp only [List.length_take, List.length_drop, List.length_append, List.length_cons, List.length_nil, List.length_replicate, List.length_set, V.length_data, V.S_size]; omega)) (by first | omega | (simp only [List.length_take, List.length_drop, List.length_append, List.length_cons, List.length_nil, List.length_replicate, List.length_set, V.length_data, V.S_size]; omega)) (fun a84 F86 => ?_)
   refine V.call (whole_spec F86 (fun k hk => by have := hk.2; omega)) rfl rfl rfl ?_
   rintro _ w90 ⟨a87, c88, rfl, F89, G91⟩
   have z92 := V.Fr.size G91
   try replace F_b := F_b.gr G91
   try replace Fk2 := Fk2.gr G91
   try replace F10 := F10.gr G91
   try replace F86 := F86.gr G91
   replace HG := HG.grow G91
   clear G91
   refine V.run T_ok 5 rfl ?_
   refine V.nil ?_
   refine V.tN ?_
   refine V.seq ?_
   refine V.seq ?_
   have hwc : wholeB ((frm b).take (Int.tmod a1 ((frm b).length : Int)).toNat) = ([], 21) := whole_none (first_cut (by omega) (by omega))
   rw [hwc] at F89 ⊢
   refine V.region ?_
   refine V.run T_ok 3 rfl ?_
   refine V.yes rfl rfl rfl ?_
   refine V.elemP T_ok rfl rfl rfl rfl rfl rfl (by first | omega | decide) (by first | omega | decide) ?_
   refine V.yes rfl rfl rfl ?_
   refine V.loadO T_ok Fk2 rfl rfl rfl rfl rfl ?_
   refine V.run T_ok 3 rfl ?_
   refine V.split (j := 7) (t := 58) rfl rfl (fun g10_7 => ?_) (fun g10_7 => ?_)
   ·
    try replace g10_7 := V.dec g10_7
    try simp only [V.mk0, V.mk1, V.mk2, V.mk3] at g10_7
    refine V.run T_ok 12 rfl ?_
    refine V.nil ?_
    refine V.tN ?_
    refine V.condY rfl rfl ?_
    refine V.seq ?_
    refine V.region ?_
    refine V.call (alive_spec) rfl rfl rfl ?_
    rintro _ w93 ⟨rfl, G94⟩
    have z95 := V.Fr.size G94
    try replace F_b := F_b.gr G94
    try replace Fk2 := Fk2.gr G94
    try replace F10 := F10.gr G94
    try replace F86 := F86.gr G94
    try replace F89 := F89.gr G94
    replace HG := HG.grow G94
    clear G94
    refine V.run T_ok 5 rfl ?_
    refine V.nil ?_
    refine V.tN ?_
    refine V.ret ?_
    refine V.tR ?_
    refine V.done rfl ?_
    exact ⟨congrArg Value.bool (by first | rfl | (rw [scanB_none hft]; rfl)), HG⟩
   ·
    try replace g10_7 := V.dec g10_7
    try simp only [V.mk0, V.mk1, V.mk2, V.mk3] at g10_7
    refine V.yes rfl rfl rfl ?_
    refine V.elemP T_ok rfl rfl rfl rfl rfl rfl (by first | omega | decide) (by first | omega | decide) ?_
    refine V.yes rfl rfl rfl ?_
    refine V.loadO T_ok Fk2 rfl rfl rfl rfl rfl ?_
    refine V.run T_ok 2 rfl ?_
    refine V.yes rfl rfl rfl ?_
    refine V.mulN rfl rfl rfl rfl rfl (by first | omega | (simp only [List.length_take, List.length_drop, List.length_append, List.length_cons, List.length_nil, List.length_replicate, List.length_set, V.length_data, V.S_size]; omega)) (by first | omega | (simp only [List.length_take, List.length_drop, List.length_append, List.length_cons, List.length_nil, List.length_replicate, List.length_set, V.length_data, V.S_size]; omega)) ?_
    refine V.yes rfl rfl rfl ?_
    refine V.subN rfl rfl rfl rfl rfl (by first | omega | (simp only [List.length_take, List.length_drop, List.length_append, List.length_cons, List.length_nil, List.length_replicate, List.length_set, V.length_data, V.S_size]; omega)) (by first | omega | (simp only [List.length_take, List.length_drop, List.length_append, List.length_cons, List.length_nil, List.length_replicate, List.length_set, V.length_data, V.S_size]; omega)) ?_
    refine V.run T_ok 3 rfl ?_
    refine V.orG T_ok 2 16 67 rfl rfl rfl rfl rfl rfl rfl rfl ?_
    refine V.nil ?_
    refine V.tN ?_
    refine V.condT rfl (fun h10 => ?_) (fun h10 => ?_)
    ·
     try replace h10 := V.dec h10
     try simp only [V.mk0, V.mk1, V.mk2, V.mk3] at h10
     refine V.seq ?_
     refine V.region ?_
     refine V.call (alive_spec) rfl rfl rfl ?_
     rintro _ w96 ⟨rfl, G97⟩
     have z98 := V.Fr.size G97
     try replace F_b := F_b.gr G97
     try replace Fk2 := Fk2.gr G97
     try replace F10 := F10.gr G97
     try replace F86 := F86.gr G97
     try replace F89 := F89.gr G97
     replace HG := HG.grow G97
     clear G97
     refine V.run T_ok 5 rfl ?_
     refine V.nil ?_
     refine V.tN ?_
     refine V.ret ?_
     refine V.tR ?_
     refine V.done rfl ?_
     exact ⟨congrArg Value.bool (by first | rfl | (rw [scanB_none hft]; rfl)), HG⟩
    ·
     try replace h10 := V.dec h10
     try simp only [V.mk0, V.mk1, V.mk2, V.mk3] at h10
     refine V.skip ?_
     refine V.tN ?_
     refine V.seq ?_
     refine V.region ?_
     refine V.mkSlice T_ok zero5 rfl rfl sz5 rfl rfl rfl rfl rfl rfl ?_
     rintro k99 w102 s104 s105 G103 Fk100
     have z106 := V.Fr.size G103
     try replace F_b := F_b.gr G103
     try replace Fk2 := Fk2.gr G103
     try replace F10 := F10.gr G103
     try replace F86 := F86.gr G103
     try replace F89 := F89.gr G103
     replace HG := HG.grow G103
     clear G103
     have F101 := V.rowOfB (xs := ([] : List UInt8)) Fk100 rfl rfl
     clear Fk100
     refine V.run T_ok 1 rfl ?_
     refine V.appendR (F101) (V.From.flat V.flat_byte (D' := V.None') (F10.sl.from Try.underlying23)) elT23_23 rfl rfl rfl rfl rfl (by first | omega | (simp only [List.length_take, List.length_drop, List.length_append, List.length_cons, List.length_nil, List.length_replicate, List.length_set, V.length_data, V.S_size]; omega)) (by unfold maxLen; first | omega | (simp only [List.length_take, List.length_drop, List.length_append, List.length_cons, List.length_nil, List.length_replicate, List.length_set, V.length_data, V.S_size]; omega)) (by omega) (by omega) (fun _ h => h.elim) (fun _ h => h.elim) ?_
     rintro a107 c108 w110 G111 s112 F109
     clear F101
     have z113 := Go.RowKit.Below.size G111
     first | replace F_b := V.Sl.bl F_b G111 (by first | exact (fun _ h => by have := h.2; omega) | (intro k h; have := hD_b k h; omega)) | clear F_b | skip
     first | replace Fk2 := V.Cells.bl Fk2 G111 (by omega) | clear Fk2 | skip
     first | replace F10 := V.Row.bl F10 G111 (by first | exact ⟨fun _ h => h.elim, by omega⟩ | exact ⟨fun _ h => by have := h.2; omega, by omega⟩) | clear F10 | skip
     first | replace F86 := V.Sl.bl F86 G111 (by first | exact (fun _ h => by have := h.2; omega) | (intro k h; have := hD k h; omega)) | clear F86 | skip
     first | replace F89 := V.Row.bl F89 G111 (by first | exact ⟨fun _ h => h.elim, by omega⟩ | exact ⟨fun _ h => by have := h.2; omega, by omega⟩) | clear F89 | skip
     replace HG := HG.bl (Go.RowKit.Below.mono G111 (by omega))
     clear G111
     rw [List.nil_append] at F109 ⊢
     refine V.run T_ok 1 rfl ?_
     refine V.nil ?_
     refine V.tN ?_
     refine V.seq ?_
     refine V.seq ?_
     refine V.region ?_
     refine V.run T_ok 1 rfl ?_
     refine V.nil ?_
     refine V.tN ?_
     refine V.block ?_
     refine V.loopM (fun m e v116 => Fr [] w v116 ∧ w110.heap.size ≤ v116.heap.size ∧ Sl V.Cod.byte v116 D_b a_b c_b b ∧ Cells v116 k1 [.int .i64 a0, .int .i64 a1] 38 ∧ V.Row V.Cod.byte 5 v116 V.None' w3.heap.size w11.heap.size a8 c9 (frm b) ∧ Sl V.Cod.byte v116 (V.In w3.heap.size w11.heap.size) a84 c9 ((frm b).take (Int.tmod a1 ((frm b).length : Int)).toNat) ∧ V.Row V.Cod.byte 5 v116 V.None' w11.heap.size w90.heap.size a87 c88 ([] : List UInt8) ∧ ∃ (i : Nat) , m = 32 - i ∧ i ≤ 32 ∧ V.Row V.Cod.byte 5 v116 V.None' k99 w110.heap.size a107 c108 (flipN (frm b) (64 + a0.toNat) w0.toNat i) ∧ e 2 = .int .u32 w0 ∧ e 4 = .pointer (some ⟨k1, 0, none⟩) ∧ e 12 = .slice a107 (frm b).length c108 ∧ e 13 = .int .i64 (i : Int)) ?_ ?_
     ·
      exact ⟨_, HG, (by omega), F_b, Fk2, F10, F86, F89, (0), rfl, (Nat.zero_le _), F109.re, rfl, rfl, rfl, rfl⟩
     try clear F109
     clear HG F_b Fk2 F10 F86 F89
     rintro _ e v116 ⟨HG, z117, F_b, Fk2, F10, F86, F89, i, rfl, hi, F114, he0_2, he0_4, he0_12, he0_13⟩
     refine V.knownC (t := 2) he0_2 ?_
     refine V.knownC (t := 4) he0_4 ?_
     refine V.knownC (t := 12) he0_12 ?_
     refine V.knownC (t := 13) he0_13 ?_
     refine V.seq ?_
     refine V.seq ?_
     refine V.region ?_
     refine V.run T_ok 2 rfl ?_
     refine V.nil ?_
     refine V.tN ?_
     refine V.condT rfl (fun h14 => ?_) (fun h14 => ?_)
     ·
      try replace h14 := V.dec h14
      try simp only [V.mk0, V.mk1, V.mk2, V.mk3] at h14
      refine V.skip ?_
      refine V.tN ?_
      refine V.seq ?_
      refine V.block ?_
      refine V.seq ?_
      have hfn := flipN_len (frm b) (64 + a0.toNat) w0.toNat i
      refine V.region ?_
      refine V.run T_ok 2 rfl ?_
      first | refine V.cnvN T_ok rfl rfl rfl rfl rfl rfl (V.wrap_u64 (by omega) (by omega)) ?_ | refine V.run T_ok 1 rfl ?_
      refine V.shrN rfl rfl rfl rfl rfl (by first | omega | (simp only [List.length_take, List.length_drop, List.length_append, List.length_cons, List.length_nil, List.length_replicate, List.length_set, V.length_data, V.S_size]; omega)) ?_
      refine V.run T_ok 2 rfl ?_
      refine V.nil ?_
      refine V.tN ?_
      refine V.condT rfl (fun h16 => ?_) (fun h16 => ?_)
      ·
       try replace h16 := V.dec h16
       try simp only [V.mk0, V.mk1, V.mk2, V.mk3] at h16
       refine V.seq ?_
       refine V.region ?_
       refine V.elemP T_ok rfl rfl rfl rfl rfl rfl (by first | omega | decide) (by first | omega | decide) ?_
       refine V.loadO T_ok Fk2 rfl rfl rfl rfl rfl ?_
       refine V.addN rfl rfl rfl rfl rfl (by first | omega | (simp only [List.length_take, List.length_drop, List.length_append, List.length_cons, List.length_nil, List.length_replicate, List.length_set, V.length_data, V.S_size]; omega)) (by first | omega | (simp only [List.length_take, List.length_drop, List.length_append, List.length_cons, List.length_nil, List.length_replicate, List.length_set, V.length_data, V.S_size]; omega)) ?_
       refine V.run T_ok 1 rfl ?_
       refine V.addN rfl rfl rfl rfl rfl (by first | omega | (simp only [List.length_take, List.length_drop, List.length_append, List.length_cons, List.length_nil, List.length_replicate, List.length_set, V.length_data, V.S_size]; omega)) (by first | omega | (simp only [List.length_take, List.length_drop, List.length_append, List.length_cons, List.length_nil, List.length_replicate, List.length_set, V.length_data, V.S_size]; omega)) ?_
       refine V.run T_ok 1 rfl ?_
       refine V.nil ?_
       refine V.tN ?_
       refine V.region ?_
       refine V.run T_ok 2 rfl ?_
       first | refine V.quoN rfl rfl rfl rfl rfl (by first | omega | (simp only [List.length_take, List.length_drop, List.length_append, List.length_cons, List.length_nil, List.length_replicate, List.length_set, V.length_data, V.S_size]; omega)) (by first | omega | (simp only [List.length_take, List.length_drop, List.length_append, List.length_cons, List.length_nil, List.length_replicate, List.length_set, V.length_data, V.S_size]; omega)) (by first | omega | (simp only [List.length_take, List.length_drop, List.length_append, List.length_cons, List.length_nil, List.length_replicate, List.length_set, V.length_data, V.S_size]; omega)) ?_ | refine V.run T_ok 1 rfl ?_
       refine V.run T_ok 2 rfl ?_
       first | refine V.quoN rfl rfl rfl rfl rfl (by first | omega | (simp only [List.length_take, List.length_drop, List.length_append, List.length_cons, List.length_nil, List.length_replicate, List.length_set, V.length_data, V.S_size]; omega)) (by first | omega | (simp only [List.length_take, List.length_drop, List.length_append, List.length_cons, List.length_nil, List.length_replicate, List.length_set, V.length_data, V.S_size]; omega)) (by first | omega | (simp only [List.length_take, List.length_drop, List.length_append, List.length_cons, List.length_nil, List.length_replicate, List.length_set, V.length_data, V.S_size]; omega)) ?_ | refine V.run T_ok 1 rfl ?_
       obtain ⟨g123, hg123l, hg123u, F124⟩ := V.Row.own1 V.flat_byte F114 (by first | omega | (simp only [List.length_take, List.length_drop, List.length_append, List.length_cons, List.length_nil, List.length_replicate, List.length_set, V.length_data, V.S_size]; omega))
       clear F114
       refine V.elemO' T_ok F124 (by first | rfl | (first | omega | (simp only [List.length_take, List.length_drop, List.length_append, List.length_cons, List.length_nil, List.length_replicate, List.length_set, V.length_data, V.S_size]; omega))) rfl rfl sz5 rfl rfl rfl rfl (by first | omega | (simp only [List.length_take, List.length_drop, List.length_append, List.length_cons, List.length_nil, List.length_replicate, List.length_set, V.length_data, V.S_size]; omega)) (by first | omega | (simp only [List.length_take, List.length_drop, List.length_append, List.length_cons, List.length_nil, List.length_replicate, List.length_set, V.length_data, V.S_size]; omega)) ?_
       rintro hx119
       obtain ⟨cs122, hR120, hA121⟩ := V.Own.el F124 hx119
       obtain ⟨x118, hx118⟩ : ∃ z', (flipN (frm b) (64 + a0.toNat) w0.toNat i)[(((64 + a0) + (i : Int)) / 8).toNat] = z' := ⟨_, rfl⟩
       rw [hx118] at hR120
       obtain rfl := hR120
       try simp only [Int.toNat_natCast] at hx118 hx119
       refine V.loadA T_ok (o0 := (((64 + a0) + (i : Int)) / 8).toNat * V.Cod.byte.sz) (off := 0) hA121 rfl rfl rfl rfl rfl ?_
       refine V.run T_ok 1 rfl ?_
       first | refine V.remN rfl rfl rfl rfl rfl (by first | omega | (simp only [List.length_take, List.length_drop, List.length_append, List.length_cons, List.length_nil, List.length_replicate, List.length_set, V.length_data, V.S_size]; omega)) (by first | omega | (simp only [List.length_take, List.length_drop, List.length_append, List.length_cons, List.length_nil, List.length_replicate, List.length_set, V.length_data, V.S_size]; omega)) ?_ | refine V.run T_ok 1 rfl ?_
       first | refine V.cnvN T_ok rfl rfl rfl rfl rfl rfl (V.wrap_u64 (by omega) (by omega)) ?_ | refine V.run T_ok 1 rfl ?_
       refine V.shlN rfl rfl rfl rfl rfl (by first | omega | (simp only [List.length_take, List.length_drop, List.length_append, List.length_cons, List.length_nil, List.length_replicate, List.length_set, V.length_data, V.S_size]; omega)) ?_
       refine V.run T_ok 1 rfl ?_
       refine V.elemO' T_ok F124 (by first | rfl | (first | omega | (simp only [List.length_take, List.length_drop, List.length_append, List.length_cons, List.length_nil, List.length_replicate, List.length_set, V.length_data, V.S_size]; omega))) rfl rfl sz5 rfl rfl rfl rfl (by first | omega | (simp only [List.length_take, List.length_drop, List.length_append, List.length_cons, List.length_nil, List.length_replicate, List.length_set, V.length_data, V.S_size]; omega)) (by first | omega | (simp only [List.length_take, List.length_drop, List.length_append, List.length_cons, List.length_nil, List.length_replicate, List.length_set, V.length_data, V.S_size]; omega)) ?_
       rintro hx126
       obtain ⟨cs129, hR127, hA128⟩ := V.Own.el F124 hx126
       obtain ⟨x125, hx125⟩ : ∃ z', (flipN (frm b) (64 + a0.toNat) w0.toNat i)[(((64 + a0) + (i : Int)) / 8).toNat] = z' := ⟨_, rfl⟩
       rw [hx125] at hR127
       obtain rfl := hR127
       try simp only [Int.toNat_natCast] at hx125 hx126
       refine V.storeS (D' := V.None') (j := (((64 + a0) + (i : Int)) / 8).toNat) (x' := (x118 ^^^ UInt8.ofNat (2 ^ (((64 + a0.toNat) + i) % 8)))) V.flat_byte F124 rfl rfl rfl (by first | omega | (simp only [List.length_take, List.length_drop, List.length_append, List.length_cons, List.length_nil, List.length_replicate, List.length_set, V.length_data, V.S_size]; omega)) rfl (V.cb1 (by rw [show (((64 : Int) + a0) + (i : Int)) % 8 = ((((64 + a0.toNat) + i) % 8 : Nat) : Int) by omega]; exact flip_byte x118 _)) rfl sz5 rfl rfl ?_
       rintro w130 G131 z132 Fnew
       clear F124
       have z133 := V.Fr.size G131
       first | replace F_b := F_b.mb G131 hD_b | clear F_b | skip
       first | replace Fk2 := Fk2.mv1 G131 (by omega) | clear Fk2 | skip
       first | replace F10 := F10.ma G131 | clear F10 | skip
       first | replace F86 := F86.ma G131 | clear F86 | skip
       first | replace F89 := F89.ma G131 | clear F89 | skip
       replace HG := HG.n1 G131
       clear G131
       have F124 := Fnew; clear Fnew
       refine V.nil ?_
       refine V.bN ?_
       refine V.tN ?_
       refine V.region ?_
       refine V.run T_ok 1 rfl ?_
       refine V.addN rfl rfl rfl rfl rfl (by first | omega | (simp only [List.length_take, List.length_drop, List.length_append, List.length_cons, List.length_nil, List.length_replicate, List.length_set, V.length_data, V.S_size]; omega)) (by first | omega | (simp only [List.length_take, List.length_drop, List.length_append, List.length_cons, List.length_nil, List.length_replicate, List.length_set, V.length_data, V.S_size]; omega)) ?_
       refine V.run T_ok 1 rfl ?_
       refine V.nil ?_
       refine V.tN ?_
       have hr134 : (flipN (frm b) (64 + a0.toNat) w0.toNat i).set ((((64 + a0) + (i : Int)) / 8).toNat) (x118 ^^^ UInt8.ofNat (2 ^ (((64 + a0.toNat) + i) % 8))) = (flipN (frm b) (64 + a0.toNat) w0.toNat (i + 1)) := by rw [flipN, if_pos ((bit_cond w0 i (by omega) (by omega) (by omega)).1 h16)]; exact flip_set (by omega) (by omega) hx118
       rw [hr134] at F124
       clear hr134
       exact ⟨_, (by omega), HG, (by omega), F_b, Fk2, F10, F86, F89, (i + 1), rfl, (by omega), (by first | exact (V.Row.back F124 hg123l hg123u) | exact (V.Row.back F124 hg123l hg123u).mono (fun _ h => h) (by omega) (by omega)), rfl, rfl, rfl, rfl⟩
      ·
       try replace h16 := V.dec h16
       try simp only [V.mk0, V.mk1, V.mk2, V.mk3] at h16
       refine V.skip ?_
       refine V.bN ?_
       refine V.tN ?_
       refine V.region ?_
       refine V.run T_ok 1 rfl ?_
       refine V.addN rfl rfl rfl rfl rfl (by first | omega | (simp only [List.length_take, List.length_drop, List.length_append, List.length_cons, List.length_nil, List.length_replicate, List.length_set, V.length_data, V.S_size]; omega)) (by first | omega | (simp only [List.length_take, List.length_drop, List.length_append, List.length_cons, List.length_nil, List.length_replicate, List.length_set, V.length_data, V.S_size]; omega)) ?_
       refine V.run T_ok 1 rfl ?_
       refine V.nil ?_
       refine V.tN ?_
       have hr135 : (flipN (frm b) (64 + a0.toNat) w0.toNat i) = (flipN (frm b) (64 + a0.toNat) w0.toNat (i + 1)) := by rw [flipN, if_neg (fun h => h16 ((bit_cond w0 i (by omega) (by omega) (by omega)).2 h))]
       rw [hr135] at F114
       clear hr135
       exact ⟨_, (by omega), HG, (by omega), F_b, Fk2, F10, F86, F89, (i + 1), rfl, (by omega), F114.re, rfl, rfl, rfl, rfl⟩
     ·
      try replace h14 := V.dec h14
      try simp only [V.mk0, V.mk1, V.mk2, V.mk3] at h14
      refine V.exit ?_
      refine V.tX ?_
      refine V.tX ?_
      refine V.bE ?_
      refine V.tN ?_
      refine V.seq ?_
      rw [show ((frm b)).length = ((flipN (frm b) (64 + a0.toNat) w0.toNat i)).length by rw [flipN_len]]
      have hfn := flipN_len (frm b) (64 + a0.toNat) w0.toNat i
      have hft : firstB (flipN (frm b) (64 + a0.toNat) w0.toNat i) = none := by rw [show i = 32 by omega]; exact first_turned (by omega) (by omega) (by omega) (by omega) (by omega)
      refine V.region ?_
      refine V.run T_ok 1 rfl ?_
      refine V.call (whole_spec F114.sl (fun k hk => by have := hk.2; omega)) rfl rfl rfl ?_
      rintro _ w139 ⟨a136, c137, rfl, F138, G140⟩
      have z141 := V.Fr.size G140
      try replace F_b := F_b.gr G140
      try replace Fk2 := Fk2.gr G140
      try replace F10 := F10.gr G140
      try replace F86 := F86.gr G140
      try replace F89 := F89.gr G140
      try replace F114 := F114.gr G140
      replace HG := HG.grow G140
      clear G140
      refine V.run T_ok 5 rfl ?_
      refine V.nil ?_
      refine V.tN ?_
      refine V.seq ?_
      refine V.region ?_
      refine V.run T_ok 1 rfl ?_
      refine V.call (scan_spec F114.sl (fun k hk => by have := hk.2; omega) (by first | omega | (simp only [List.length_take, List.length_drop, List.length_append, List.length_cons, List.length_nil, List.length_replicate, List.length_set, V.length_data, V.S_size]; omega))) rfl rfl rfl ?_
      rintro _ w145 ⟨a142, c143, rfl, F144, G146⟩
      have z147 := V.Fr.size G146
      try replace F_b := F_b.gr G146
      try replace Fk2 := Fk2.gr G146
      try replace F10 := F10.gr G146
      try replace F86 := F86.gr G146
      try replace F89 := F89.gr G146
      try replace F114 := F114.gr G146
      try replace F138 := F138.gr G146
      replace HG := HG.grow G146
      clear G146
      refine V.run T_ok 5 rfl ?_
      refine V.nil ?_
      refine V.tN ?_
      refine V.seq ?_
      refine V.region ?_
      refine V.call (alive_spec) rfl rfl rfl ?_
      rintro _ w148 ⟨rfl, G149⟩
      have z150 := V.Fr.size G149
      try replace F_b := F_b.gr G149
      try replace Fk2 := Fk2.gr G149
      try replace F10 := F10.gr G149
      try replace F86 := F86.gr G149
      try replace F89 := F89.gr G149
      try replace F114 := F114.gr G149
      try replace F138 := F138.gr G149
      try replace F144 := F144.gr G149
      replace HG := HG.grow G149
      clear G149
      refine V.run T_ok 5 rfl ?_
      refine V.splitT (j := 5) (t := 123) rfl rfl (by (rw [whole_none hft]; rfl)) ?_
      refine V.run T_ok 5 rfl ?_
      refine V.splitT (j := 10) (t := 128) rfl rfl (by (rw [scanB_none hft]; rfl)) ?_
      refine V.run T_ok 4 rfl ?_
      refine V.nil ?_
      refine V.tN ?_
      refine V.ret ?_
      refine V.done rfl ?_
      exact ⟨congrArg Value.bool (by first | rfl | (rw [scanB_none hft]; rfl)), HG⟩

end Go.Proofs.Ythlgimhbdemfjaa
