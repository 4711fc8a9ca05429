/- Proved here: walks: what functions of this seat's program return and what they leave of memory, each as a contract. Conditions: stated at each theorem. -/
import Derived.Test.YtnbijpijbhkcpaaMpk
namespace Go.Proofs.Ytnbijpijbhkcpaa
set_option linter.unusedVariables false
set_option linter.unusedSimpArgs false
open Go
open V (Bytes Meets Env Sl Own Gr Fr Cells S)
/-! ### The sum: numbers of 32 bits -/
theorem bv32 (s : BitVec 32) : BitVec.ofInt 32 (s.toNat : Int) = s := by
  apply BitVec.eq_of_toNat_eq
  rw [BitVec.ofInt_natCast, BitVec.toNat_ofNat]
  exact Nat.mod_eq_of_lt s.isLt
theorem wrap32 (s : BitVec 32) : IntKind.u32.wrap (s.toNat : Int) = (s.toNat : Int) := by
  have h := s.isLt
  simp only [IntKind.wrap, IntKind.bits, IntKind.signed]
  simp; omega
theorem wrap32i (v : Int) : IntKind.u32.wrap v = ((BitVec.ofInt 32 v).toNat : Int) := by
  simp [IntKind.wrap, IntKind.bits, IntKind.signed, BitVec.toNat_ofInt]
  omega
theorem xor32 (a b : BitVec 32) : Go.bits .xor .u32 (a.toNat : Int) (b.toNat : Int) = ((a ^^^ b).toNat : Int) := by
  show IntKind.u32.wrap ((BitVec.ofInt 32 (a.toNat : Int) ^^^ BitVec.ofInt 32 (b.toNat : Int)).toNat : Int) = _
  rw [bv32, bv32, wrap32]
theorem or32 (a b : BitVec 32) : Go.bits .or .u32 (a.toNat : Int) (b.toNat : Int) = ((a ||| b).toNat : Int) := by
  show IntKind.u32.wrap ((BitVec.ofInt 32 (a.toNat : Int) ||| BitVec.ofInt 32 (b.toNat : Int)).toNat : Int) = _
  rw [bv32, bv32, wrap32]
theorem and32 (a b : BitVec 32) : Go.bits .and .u32 (a.toNat : Int) (b.toNat : Int) = ((a &&& b).toNat : Int) := by
  show IntKind.u32.wrap ((BitVec.ofInt 32 (a.toNat : Int) &&& BitVec.ofInt 32 (b.toNat : Int)).toNat : Int) = _
  rw [bv32, bv32, wrap32]
def bOf (c : UInt8) : BitVec 32 := BitVec.ofNat 32 c.toNat
theorem bOf_toNat (c : UInt8) : (bOf c).toNat = c.toNat := by
  have := c.toNat_lt
  simp only [bOf, BitVec.toNat_ofNat]; omega
theorem xor32b (s : BitVec 32) (c : UInt8) : Go.bits .xor .u32 (s.toNat : Int) (c.toNat : Int) = ((s ^^^ bOf c).toNat : Int) := by rw [← xor32, bOf_toNat]
def poly : BitVec 32 := 0xEDB88320#32
def crc1 (s : BitVec 32) : BitVec 32 := s >>> 1 ^^^ (poly * (s &&& 1#32))
def crcK : Nat → BitVec 32 → BitVec 32
  | 0, s => s
  | k + 1, s => crc1 (crcK k s)
def crcB (s : BitVec 32) (c : UInt8) : BitVec 32 := crcK 8 (s ^^^ bOf c)
def crcL (l : List UInt8) : BitVec 32 := l.foldl crcB 0xFFFFFFFF#32
def sumB (l : List UInt8) : BitVec 32 := ~~~ (crcL l)
theorem crcL_snoc (l : List UInt8) (c : UInt8) : crcL (l ++ [c]) = crcB (crcL l) c := by simp [crcL]
theorem shr32 (s : BitVec 32) : ((s.toNat : Int)).fdiv (2 ^ min (1 : Int).toNat IntKind.u32.bits) = ((s >>> 1).toNat : Int) := by
  rw [show (2 : Int) ^ min (1 : Int).toNat IntKind.u32.bits = 2 by decide, Int.fdiv_eq_ediv_of_nonneg _ (by decide)]
  simp only [BitVec.toNat_ushiftRight, Nat.shiftRight_eq_div_pow]; rfl
theorem mul32 (s : BitVec 32) : IntKind.u32.wrap (3988292384 * (s.toNat : Int)) = ((poly * s).toNat : Int) := by
  rw [wrap32i]
  have : BitVec.ofInt 32 (3988292384 * (s.toNat : Int)) = poly * s := by
    rw [BitVec.ofInt_mul, bv32]; rfl
  rw [this]
theorem crc1_go (s : BitVec 32) : Go.bits .xor .u32 (((s.toNat : Int)).fdiv (2 ^ min (1 : Int).toNat IntKind.u32.bits)) (IntKind.u32.wrap (3988292384 * Go.bits .and .u32 (s.toNat : Int) 1)) = ((crc1 s).toNat : Int) := by
  have h1 : Go.bits .and .u32 (s.toNat : Int) 1 = ((s &&& 1#32).toNat : Int) := by rw [← and32]; rfl
  rw [shr32, h1, mul32, xor32]; rfl
theorem not32 (s : BitVec 32) : Go.bits .xor .u32 IntKind.u32.max (s.toNat : Int) = ((~~~ s).toNat : Int) := by
  have h : (IntKind.u32.max : Int) = ((BitVec.allOnes 32).toNat : Int) := by decide
  rw [h, xor32, BitVec.allOnes_xor]
theorem take_snoc {α : Type} (l : List α) (i : Nat) (h : i < l.length) : l.take (i + 1) = l.take i ++ [l[i]] := by
  rw [List.take_succ_eq_append_getElem h]
/-! four bytes -/
def beN (l : List UInt8) : BitVec 32 := l.foldl (fun n c => n <<< 8 ||| bOf c) 0#32
theorem beN_snoc (l : List UInt8) (c : UInt8) : beN (l ++ [c]) = beN l <<< 8 ||| bOf c := by simp [beN]
theorem shl32 (s : BitVec 32) : IntKind.u32.wrap ((s.toNat : Int) * 2 ^ min (8 : Int).toNat IntKind.u32.bits) = ((s <<< 8).toNat : Int) := by
  rw [wrap32i]
  congr 2
  have e1 : ((s.toNat : Int) * 2 ^ min (8 : Int).toNat IntKind.u32.bits) = (((s.toNat * 256 : Nat)) : Int) := by
    rw [show (2 : Int) ^ min (8 : Int).toNat IntKind.u32.bits = 256 by decide]; simp
  rw [e1, BitVec.ofInt_natCast]
  apply BitVec.eq_of_toNat_eq
  simp only [BitVec.toNat_ofNat, BitVec.toNat_shiftLeft, Nat.shiftLeft_eq]
theorem or32b (s : BitVec 32) (c : UInt8) : Go.bits .or .u32 (s.toNat : Int) (c.toNat : Int) = ((s ||| bOf c).toNat : Int) := by rw [← or32, bOf_toNat]
theorem xor32z (s : BitVec 32) (c : UInt8) : Go.bits .xor .u32 (s.toNat : Int) (c.toNat : Int) = ((crcK 0 (s ^^^ bOf c)).toNat : Int) := xor32b s c
theorem crc1_goK (k : Nat) (s : BitVec 32) : Go.bits .xor .u32 ((((crcK k s).toNat : Int)).fdiv (2 ^ min (1 : Int).toNat IntKind.u32.bits)) (IntKind.u32.wrap (3988292384 * Go.bits .and .u32 ((crcK k s).toNat : Int) 1)) = ((crcK (k + 1) s).toNat : Int) := crc1_go _
theorem crcL_next (l : List UInt8) (i : Nat) (h : i < l.length) {x : UInt8} (hx : l[i] = x) : crcK 8 (crcL (l.take i) ^^^ bOf x) = crcL (l.take (i + 1)) := by
  rw [take_snoc l i h, crcL_snoc, hx]; rfl
theorem not32L (l : List UInt8) : Go.bits .xor .u32 IntKind.u32.max ((crcL (l.take l.length)).toNat : Int) = ((sumB l).toNat : Int) := by
  rw [List.take_length]; exact not32 _
/-! what is scanned -/
def secB (b : List UInt8) : List UInt8 := (b.drop 8).take (beN (b.take 4)).toNat
def firstB (b : List UInt8) : Option (List UInt8) :=
  if 8 < b.length ∧ (beN (b.take 4)).toNat ≠ 0 ∧ (beN (b.take 4)).toNat ≤ 65536 ∧ (beN (b.take 4)).toNat + 8 ≤ b.length ∧ sumB (secB b) = beN ((b.drop 4).take 4) then some (secB b) else none
theorem firstB_len {b x : List UInt8} (h : firstB b = some x) : 1 ≤ x.length ∧ x.length + 8 ≤ b.length ∧ x.length ≤ 65536 ∧ x = secB b := by
  unfold firstB at h
  split at h
  · rename_i h1
    cases h
    refine ⟨?_, ?_, ?_, rfl⟩ <;> simp only [secB, List.length_take, List.length_drop] <;> omega
  · cases h
def scanB (b : List UInt8) : List (List UInt8) × Nat :=
  match h : firstB b with
  | none => ([], 0)
  | some x => (x :: (scanB (b.drop (8 + x.length))).1, 8 + x.length + (scanB (b.drop (8 + x.length))).2)
termination_by b.length
decreasing_by all_goals (have := firstB_len h; simp only [List.length_drop]; omega)
theorem scanB_none {b : List UInt8} (h : firstB b = none) : scanB b = ([], 0) := by
  rw [scanB]; split
  · rfl
  · rename_i h2; rw [h] at h2; cases h2
theorem scanB_some {b x : List UInt8} (h : firstB b = some x) : scanB b = (x :: (scanB (b.drop (8 + x.length))).1, 8 + x.length + (scanB (b.drop (8 + x.length))).2) := by
  rw [scanB]; split
  · rename_i h2; rw [h] at h2; cases h2
  · rename_i y h2; rw [h] at h2; cases h2; rfl
theorem first_no {b : List UInt8} (h : ¬ (8 < b.length ∧ (beN (b.take 4)).toNat ≠ 0 ∧ (beN (b.take 4)).toNat ≤ 65536 ∧ (beN (b.take 4)).toNat + 8 ≤ b.length ∧ sumB (secB b) = beN ((b.drop 4).take 4))) : firstB b = none := by
  unfold firstB; rw [if_neg h]
theorem first_yes {b : List UInt8} (h : 8 < b.length ∧ (beN (b.take 4)).toNat ≠ 0 ∧ (beN (b.take 4)).toNat ≤ 65536 ∧ (beN (b.take 4)).toNat + 8 ≤ b.length ∧ sumB (secB b) = beN ((b.drop 4).take 4)) : firstB b = some (secB b) := by
  unfold firstB; rw [if_pos h]
theorem bvI {a b : BitVec 32} : ((a.toNat : Int) = (b.toNat : Int)) ↔ a = b := ⟨fun h => BitVec.eq_of_toNat_eq (by omega), fun h => by rw [h]⟩
theorem secB_len {b : List UInt8} (h : (beN (b.take 4)).toNat + 8 ≤ b.length) : (secB b).length = (beN (b.take 4)).toNat := by
  simp only [secB, List.length_take, List.length_drop]; omega
theorem secB_at (b : List UInt8) : (b.drop (8 : Int).toNat).take ((8 + ((beN (b.take 4)).toNat : Int)) - (8 : Int)).toNat = secB b := by
  unfold secB
  congr 1; omega
def wholeB (b : List UInt8) : List UInt8 × Int := match firstB b with
  | some x => if 8 + x.length = b.length then (x, 0) else ([], 21)
  | none => ([], 21)
def fourI (n : Int) : List UInt8 := [UInt8.ofNat (n.toNat / 16777216), UInt8.ofNat (n.toNat / 65536), UInt8.ofNat (n.toNat / 256), UInt8.ofNat n.toNat]
theorem cut8n (v : Nat) : IntKind.u8.wrap (v : Int) = (((UInt8.ofNat v).toNat : Nat) : Int) := by
  rw [V.cut8 _ (Int.natCast_nonneg v), Int.toNat_natCast]
theorem shr8 (n : Int) (h : 0 ≤ n) (k : Nat) (hk : k ≤ 32) : IntKind.u8.wrap (n.fdiv (2 ^ min (k : Int).toNat IntKind.u32.bits)) = (((UInt8.ofNat (n.toNat / 2 ^ k)).toNat : Nat) : Int) := by
  have e1 : min (k : Int).toNat IntKind.u32.bits = k := by simp [IntKind.bits]; omega
  rw [e1, Int.fdiv_eq_ediv_of_nonneg _ (by have : (0 : Int) < 2 ^ k := Int.pow_pos (by decide); omega)]
  obtain ⟨m, rfl⟩ := Int.eq_ofNat_of_zero_le h
  have e2 : ((m : Int) / 2 ^ k) = ((m / 2 ^ k : Nat) : Int) := by simp
  rw [e2, cut8n, Int.toNat_natCast]
theorem quo8 (n : Int) (h : 0 ≤ n) (h2 : n < 4294967296) (d : Nat) : IntKind.u8.wrap (IntKind.u32.wrap (n.tdiv (d : Int))) = (((UInt8.ofNat (n.toNat / d)).toNat : Nat) : Int) := by
  obtain ⟨m, rfl⟩ := Int.eq_ofNat_of_zero_le h
  have e1 : (m : Int).tdiv (d : Int) = ((m / d : Nat) : Int) := by
    rw [Int.tdiv_eq_ediv_of_nonneg (by omega)]; simp
  have hle : m / d ≤ m := Nat.div_le_self _ _
  rw [Int.toNat_natCast]
  generalize m / d = q at *
  rw [e1, V.wrap_u32 (by omega) (by omega), cut8n]
def frmB (b : List UInt8) : List UInt8 × Int := if b.length = 0 ∨ 65536 < b.length then ([], 21) else (fourI b.length ++ fourI (sumB b).toNat ++ b, 0)
theorem fourI_len (n : Int) : (fourI n).length = 4 := rfl
theorem crcL0 (b : List UInt8) : (4294967295 : Int) = ((crcL (b.take 0)).toNat : Int) := by rw [List.take_zero]; unfold crcL; rfl
theorem beN0 (b : List UInt8) : (0 : Int) = ((beN (b.take 0)).toNat : Int) := by rw [List.take_zero]; rfl
theorem beN_go (l : List UInt8) (i : Nat) (h : i < l.length) {x : UInt8} (hx : l[i] = x) : Go.bits .or .u32 (IntKind.u32.wrap (((beN (l.take i)).toNat : Int) * 2 ^ min (8 : Int).toNat IntKind.u32.bits)) (x.toNat : Int) = ((beN (l.take (i + 1))).toNat : Int) := by
  rw [shl32, or32b, take_snoc l i h, beN_snoc, hx]
attribute [irreducible] beN secB firstB
/-! ### one bit of the sum -/
theorem lsb_mod (q : BitVec 32) : q.getLsbD 0 = decide (q.toNat % 2 = 1) := by
  rw [BitVec.getLsbD, Nat.testBit_zero]
theorem and_one (q : BitVec 32) : q &&& 1#32 = if q.getLsbD 0 then 1#32 else 0#32 := by
  apply BitVec.eq_of_getLsbD_eq
  intro i hi
  rw [BitVec.getLsbD_and, BitVec.getLsbD_one]
  by_cases h : i = 0
  · subst h; cases q.getLsbD 0 <;> simp
  · cases q.getLsbD 0 <;> simp [h]
theorem crc1_lsb (q : BitVec 32) : crc1 q = if q.getLsbD 0 then q >>> 1 ^^^ poly else q >>> 1 := by
  unfold crc1
  rw [and_one]
  cases q.getLsbD 0 <;> simp
theorem shr_xor (a b : BitVec 32) (k : Nat) : (a ^^^ b) >>> k = (a >>> k) ^^^ (b >>> k) := BitVec.ushiftRight_xor_distrib a b k
def refS (s : BitVec 32) (x : UInt8) (k : Nat) : BitVec 32 := crcK k (s ^^^ bOf x) ^^^ (bOf x >>> k)
theorem refS_zero (s : BitVec 32) (x : UInt8) : refS s x 0 = s := by
  unfold refS crcK
  rw [BitVec.ushiftRight_zero, BitVec.xor_assoc, BitVec.xor_self, BitVec.xor_zero]
theorem refS_eight (s : BitVec 32) (x : UInt8) : refS s x 8 = crcK 8 (s ^^^ bOf x) := by
  have h : bOf x >>> 8 = 0#32 := by
    apply BitVec.eq_of_toNat_eq
    have := x.toNat_lt
    simp only [BitVec.toNat_ushiftRight, bOf_toNat, Nat.shiftRight_eq_div_pow, BitVec.toNat_ofNat]
    omega
  unfold refS
  rw [h, BitVec.xor_zero]
theorem refS_next (s : BitVec 32) (x : UInt8) (k : Nat) : refS s x (k + 1) = if (refS s x k).getLsbD 0 = (bOf x >>> k).getLsbD 0 then refS s x k >>> 1 else refS s x k >>> 1 ^^^ poly := by
  have h1 : crcK (k + 1) (s ^^^ bOf x) = crc1 (crcK k (s ^^^ bOf x)) := by
    show crcK (k + 1) _ = _
    rw [crcK]
  unfold refS
  rw [h1, crc1_lsb, shr_xor, ← BitVec.shiftRight_add, BitVec.getLsbD_xor]
  generalize crcK k (s ^^^ bOf x) = q
  cases q.getLsbD 0 <;> cases (bOf x >>> k).getLsbD 0 <;> simp [BitVec.xor_assoc, BitVec.xor_comm]
theorem refS_cond (s : BitVec 32) (x : UInt8) (k : Nat) (hk : k < 8) : (((s.toNat : Int)).tmod 2 = (IntKind.u32.wrap (((x.toNat : Int)).fdiv (2 ^ min (k : Int).toNat IntKind.u8.bits))).tmod 2) ↔ s.getLsbD 0 = (bOf x >>> k).getLsbD 0 := by
  have e1 : min (k : Int).toNat IntKind.u8.bits = k := by simp [IntKind.bits]; omega
  have e2 : ((x.toNat : Int)).fdiv (2 ^ k) = ((x.toNat / 2 ^ k : Nat) : Int) := by
    rw [Int.fdiv_eq_ediv_of_nonneg _ (Int.le_of_lt (Int.pow_pos (by decide)))]; simp
  have e3 : (bOf x >>> k).toNat = x.toNat / 2 ^ k := by
    rw [BitVec.toNat_ushiftRight, bOf_toNat, Nat.shiftRight_eq_div_pow]
  have hx := x.toNat_lt
  have hle : x.toNat / 2 ^ k ≤ x.toNat := Nat.div_le_self _ _
  rw [e1, e2, lsb_mod, lsb_mod, e3, V.wrap_u32 (by omega) (by omega)]
  generalize x.toNat / 2 ^ k = m
  generalize s.toNat = q
  have h1 : (q : Int).tmod 2 = ((q % 2 : Nat) : Int) := by rw [Int.tmod_eq_emod_of_nonneg (by omega)]; simp
  have h2 : (m : Int).tmod 2 = ((m % 2 : Nat) : Int) := by rw [Int.tmod_eq_emod_of_nonneg (by omega)]; simp
  rw [h1, h2, decide_eq_decide]
  omega
theorem half32 (s : BitVec 32) : IntKind.u32.wrap ((s.toNat : Int).tdiv 2) = ((s >>> 1).toNat : Int) := by
  have h1 : (s.toNat : Int).tdiv 2 = ((s.toNat / 2 : Nat) : Int) := by rw [Int.tdiv_eq_ediv_of_nonneg (by omega)]; simp
  have := s.isLt
  rw [h1, V.wrap_u32 (by omega) (by omega), BitVec.toNat_ushiftRight, Nat.shiftRight_eq_div_pow]
theorem refS_yes (s : BitVec 32) (x : UInt8) (k : Nat) (hk : k < 8) (h : ¬ ((((refS s x k).toNat : Int)).tmod 2 = (IntKind.u32.wrap (((x.toNat : Int)).fdiv (2 ^ min (k : Int).toNat IntKind.u8.bits))).tmod 2)) :
    Go.bits .xor .u32 (IntKind.u32.wrap (((refS s x k).toNat : Int).tdiv 2)) 3988292384 = ((refS s x (k + 1)).toNat : Int) := by
  rw [half32, show (3988292384 : Int) = ((poly).toNat : Int) by decide, xor32, refS_next, if_neg (fun h2 => h ((refS_cond _ _ _ hk).2 h2))]
theorem refS_no (s : BitVec 32) (x : UInt8) (k : Nat) (hk : k < 8) (h : (((refS s x k).toNat : Int)).tmod 2 = (IntKind.u32.wrap (((x.toNat : Int)).fdiv (2 ^ min (k : Int).toNat IntKind.u8.bits))).tmod 2) :
    IntKind.u32.wrap (((refS s x k).toNat : Int).tdiv 2) = ((refS s x (k + 1)).toNat : Int) := by
  rw [half32, refS_next, if_pos ((refS_cond _ _ _ hk).1 h)]
theorem refS0I (s : BitVec 32) (x : UInt8) : ((s.toNat : Nat) : Int) = ((refS s x 0).toNat : Int) := by rw [refS_zero]
theorem refS8 (l : List UInt8) (i : Nat) (h : i < l.length) {x : UInt8} (hx : l[i] = x) : refS (crcL (l.take i)) x 8 = crcL (l.take (i + 1)) := by rw [refS_eight]; exact crcL_next l i h hx
theorem not32R (l : List UInt8) : IntKind.u32.wrap (4294967295 - ((crcL (l.take l.length)).toNat : Int)) = ((sumB l).toNat : Int) := by
  rw [List.take_length]
  unfold sumB
  generalize crcL l = q
  have := q.isLt
  rw [V.wrap_u32 (by omega) (by omega), BitVec.toNat_not]
  omega
attribute [irreducible] refS
attribute [irreducible] crc1 crcK crcL sumB
/-! the reference's -/
def r1B (b : List UInt8) : List UInt8 × Bool :=
  if 8 < b.length ∧ (beN (b.take 4)).toNat ≠ 0 ∧ (beN (b.take 4)).toNat ≤ 65536 ∧ (beN (b.take 4)).toNat + 8 ≤ b.length then (secB b, decide (((sumB (secB b)).toNat : Int) = ((beN ((b.drop 4).take 4)).toNat : Int))) else ([], false)
theorem r1_no {b : List UInt8} (h : ¬ (8 < b.length ∧ (beN (b.take 4)).toNat ≠ 0 ∧ (beN (b.take 4)).toNat ≤ 65536 ∧ (beN (b.take 4)).toNat + 8 ≤ b.length)) : r1B b = ([], false) := by
  unfold r1B; rw [if_neg h]
theorem r1_yes {b : List UInt8} (h : 8 < b.length ∧ (beN (b.take 4)).toNat ≠ 0 ∧ (beN (b.take 4)).toNat ≤ 65536 ∧ (beN (b.take 4)).toNat + 8 ≤ b.length) : r1B b = (secB b, decide (((sumB (secB b)).toNat : Int) = ((beN ((b.drop 4).take 4)).toNat : Int))) := by
  unfold r1B; rw [if_pos h]
theorem r1_first (b : List UInt8) : firstB b = if (r1B b).2 = true then some (r1B b).1 else none := by
  unfold r1B firstB
  by_cases h : 8 < b.length ∧ (beN (b.take 4)).toNat ≠ 0 ∧ (beN (b.take 4)).toNat ≤ 65536 ∧ (beN (b.take 4)).toNat + 8 ≤ b.length
  · rw [if_pos h, show decide (((sumB (secB b)).toNat : Int) = ((beN ((b.drop 4).take 4)).toNat : Int)) = decide (sumB (secB b) = beN ((b.drop 4).take 4)) from decide_eq_decide.2 bvI]
    by_cases h2 : sumB (secB b) = beN ((b.drop 4).take 4)
    · rw [if_pos ⟨h.1, h.2.1, h.2.2.1, h.2.2.2, h2⟩]; simp [h2]
    · rw [if_neg (fun h3 => h2 h3.2.2.2.2)]; simp [h2]
  · rw [if_neg h, if_neg (fun h3 => h ⟨h3.1, h3.2.1, h3.2.2.1, h3.2.2.2.1⟩)]; simp
theorem r1_len (b : List UInt8) : (r1B b).1.length ≤ 65536 ∧ (r1B b).1.length ≤ b.length := by
  unfold r1B
  split
  · rename_i h; simp only [secB, List.length_take, List.length_drop]; omega
  · simp
theorem r1_some {b : List UInt8} (h : (r1B b).2 = true) : firstB b = some (r1B b).1 := by rw [r1_first, if_pos h]
theorem r1_none {b : List UInt8} (h : (r1B b).2 = false) : firstB b = none := by rw [r1_first, h]; simp
theorem of4 {b : List UInt8} {x y z u : UInt8} (h : 4 ≤ b.length) (hx : b[0] = x) (hy : b[1] = y) (hz : b[2] = z) (hu : b[3] = u) :
    IntKind.u32.wrap (IntKind.u32.wrap (IntKind.u32.wrap (IntKind.u32.wrap (IntKind.u32.wrap (IntKind.u32.wrap ((x.toNat : Int) * 256) + (y.toNat : Int)) * 256) + (z.toNat : Int)) * 256) + (u.toNat : Int)) = ((beN (b.take 4)).toNat : Int) := by
  have h4 : b.take 4 = [x, y, z, u] := by
    match b, h with
    | a0 :: a1 :: a2 :: a3 :: r, _ => simp at hx hy hz hu; simp [hx, hy, hz, hu]
  have l1 := x.toNat_lt
  have l2 := y.toNat_lt
  have l3 := z.toNat_lt
  have l4 := u.toNat_lt
  have step : ∀ (n : BitVec 32) (c : UInt8), n.toNat < 16777216 → (n <<< 8 ||| bOf c).toNat = n.toNat * 256 + c.toNat := by
    intro n c hn
    have hc := c.toNat_lt
    rw [BitVec.toNat_or, BitVec.toNat_shiftLeft, bOf_toNat, Nat.shiftLeft_eq, Nat.mod_eq_of_lt (by omega), Nat.mul_comm]
    rw [← Nat.two_pow_add_eq_or_of_lt (i := 8) hc]
  rw [h4]
  have e0 : beN [x, y, z, u] = (((0#32 <<< 8 ||| bOf x) <<< 8 ||| bOf y) <<< 8 ||| bOf z) <<< 8 ||| bOf u := by unfold beN; rfl
  have e1 : (0#32 <<< 8 ||| bOf x).toNat = x.toNat := by rw [step _ _ (by decide)]; simp
  have e2 := step (0#32 <<< 8 ||| bOf x) y (by omega)
  have e3 := step ((0#32 <<< 8 ||| bOf x) <<< 8 ||| bOf y) z (by omega)
  have e4 := step (((0#32 <<< 8 ||| bOf x) <<< 8 ||| bOf y) <<< 8 ||| bOf z) u (by omega)
  rw [e0]
  rw [V.wrap_u32 (x := (x.toNat : Int) * 256) (by omega) (by omega), V.wrap_u32 (x := (x.toNat : Int) * 256 + (y.toNat : Int)) (by omega) (by omega), V.wrap_u32 (x := ((x.toNat : Int) * 256 + (y.toNat : Int)) * 256) (by omega) (by omega),
    V.wrap_u32 (x := ((x.toNat : Int) * 256 + (y.toNat : Int)) * 256 + (z.toNat : Int)) (by omega) (by omega), V.wrap_u32 (x := (((x.toNat : Int) * 256 + (y.toNat : Int)) * 256 + (z.toNat : Int)) * 256) (by omega) (by omega), V.wrap_u32 (by omega) (by omega)]
  omega
theorem whole_none {b : List UInt8} (h : firstB b = none) : wholeB b = ([], 21) := by unfold wholeB; rw [h]
theorem whole_some {b x : List UInt8} (h : firstB b = some x) (hl : 8 + x.length = b.length) : wholeB b = (x, 0) := by unfold wholeB; rw [h]; simp only; rw [if_pos hl]
theorem whole_long {b x : List UInt8} (h : firstB b = some x) (hl : ¬ 8 + x.length = b.length) : wholeB b = ([], 21) := by unfold wholeB; rw [h]; simp only; rw [if_neg hl]
theorem take44 {α : Type} (l : List α) : (l.take 4).take 4 = l.take 4 := by rw [List.take_take]; rfl
theorem sl44 {α : Type} (l : List α) : (l.drop (4 : Int).toNat).take ((8 : Int) - (4 : Int)).toNat = (l.drop 4).take 4 := rfl
attribute [irreducible] r1B
attribute [irreducible] bOf

set_option maxHeartbeats 900000 in
set_option maxRecDepth 10000 in
theorem sum_spec {w : World}  {D_b : Nat → Prop} {c_b : Nat} {a_b : Option Addr} {b : List UInt8} (F_b : Sl V.Cod.byte w D_b a_b c_b b)  :
    Meets Try.prog 74 [.slice a_b b.length c_b] w fun r w' => r = .int .u32 ((sumB b).toNat : Int) ∧ w = w' := by
 replace F_b := F_b.flb
 refine V.enter (n := 28) Try.func74 rfl rfl (by decide) rfl ?_
 refine V.seq ?_
 refine V.region ?_
 refine V.run T_ok 1 rfl ?_
 refine V.nil ?_
 refine V.tN ?_
 refine V.seq ?_
 refine V.region ?_
 refine V.run T_ok 1 rfl ?_
 refine V.nil ?_
 refine V.tN ?_
 refine V.seq ?_
 refine V.seq ?_
 refine V.region ?_
 refine V.run T_ok 3 rfl ?_
 refine V.nil ?_
 refine V.tN ?_
 refine V.block ?_
 have hl63 := F_b.len63
 refine V.loopM (fun m e v2 => w = v2 ∧ ∃ (i : Nat) , m = b.length - i ∧ i ≤ b.length ∧ e 3 = .int .u32 ((crcL (b.take i)).toNat : Int) ∧ e 6 = .slice a_b b.length c_b ∧ e 7 = .int .i64 (b.length : Int) ∧ e 8 = .int .i64 (i : Int)) ?_ ?_
 ·
  exact ⟨_, rfl, (0), rfl, (Nat.zero_le _), (congrArg (Value.int .u32) (crcL0 b)), rfl, rfl, rfl⟩
 rintro _ e v2 ⟨rfl, i, rfl, hi, he0_3, he0_6, he0_7, he0_8⟩
 refine V.knownC (t := 3) he0_3 ?_
 refine V.knownC (t := 6) he0_6 ?_
 refine V.knownC (t := 7) he0_7 ?_
 refine V.knownC (t := 8) he0_8 ?_
 refine V.seq ?_
 refine V.region ?_
 refine V.run T_ok 1 rfl ?_
 refine V.nil ?_
 refine V.tN ?_
 refine V.seq ?_
 refine V.condT rfl (fun h3 => ?_) (fun h3 => ?_)
 ·
  try replace h3 := V.dec h3
  try simp only [V.mk0, V.mk1, V.mk2, V.mk3] at h3
  refine V.skip ?_
  refine V.tN ?_
  refine V.seq ?_
  refine V.block ?_
  refine V.seq ?_
  refine V.region ?_
  refine V.elem T_ok F_b rfl rfl sz5 rfl rfl rfl rfl (by first | omega | (simp only [List.length_take, List.length_drop, List.length_append, List.length_cons, List.length_nil, List.length_replicate, List.length_set, V.length_data, V.S_size]; omega)) (by first | omega | (simp only [List.length_take, List.length_drop, List.length_append, List.length_cons, List.length_nil, List.length_replicate, List.length_set, V.length_data, V.S_size]; omega)) ?_
  rintro b3 o4 cs5 hx6 hb7 hR10 hA8
  obtain ⟨x9, hx9⟩ : ∃ z', b[((i : Int)).toNat] = z' := ⟨_, rfl⟩
  rw [hx9] at hR10
  obtain rfl := hR10
  try simp only [Int.toNat_natCast] at hx9 hx6
  refine V.loadA T_ok (o0 := o4) (off := 0) hA8 rfl rfl rfl rfl rfl ?_
  refine V.run T_ok 1 rfl ?_
  refine V.nil ?_
  refine V.tN ?_
  refine V.seq ?_
  have hc255 := UInt8.toNat_lt x9
  refine V.region ?_
  refine V.run T_ok 2 rfl ?_
  first | refine V.cnvN T_ok rfl rfl rfl rfl rfl rfl (V.wrap_u32 (by omega) (by omega)) ?_ | refine V.run T_ok 1 rfl ?_
  refine V.run T_ok 2 rfl ?_
  refine V.nil ?_
  refine V.tN ?_
  refine V.seq ?_
  refine V.region ?_
  refine V.run T_ok 1 rfl ?_
  refine V.nil ?_
  refine V.tN ?_
  refine V.block ?_
  refine V.loopM (fun m e v12 => w = v12 ∧ ∃ (k : Nat) , m = 8 - k ∧ k ≤ 8 ∧ e 3 = .int .u32 ((crcK k (crcL (b.take i) ^^^ bOf x9)).toNat : Int) ∧ e 6 = .slice a_b b.length c_b ∧ e 7 = .int .i64 (b.length : Int) ∧ e 8 = .int .i64 (i : Int) ∧ e 16 = .int .i64 (k : Int)) ?_ ?_
  ·
   exact ⟨_, rfl, (0), rfl, (Nat.zero_le _), (congrArg (Value.int .u32) (xor32z (crcL (b.take i)) x9)), rfl, rfl, rfl, rfl⟩
  rintro _ e v12 ⟨rfl, k, rfl, hk, he1_3, he1_6, he1_7, he1_8, he1_16⟩
  refine V.knownC (t := 3) he1_3 ?_
  refine V.knownC (t := 6) he1_6 ?_
  refine V.knownC (t := 7) he1_7 ?_
  refine V.knownC (t := 8) he1_8 ?_
  refine V.knownC (t := 16) he1_16 ?_
  refine V.seq ?_
  refine V.region ?_
  refine V.run T_ok 1 rfl ?_
  refine V.nil ?_
  refine V.tN ?_
  refine V.seq ?_
  refine V.condT rfl (fun h7 => ?_) (fun h7 => ?_)
  ·
   try replace h7 := V.dec h7
   try simp only [V.mk0, V.mk1, V.mk2, V.mk3] at h7
   refine V.skip ?_
   refine V.tN ?_
   refine V.seq ?_
   refine V.block ?_
   refine V.region ?_
   refine V.run T_ok 7 rfl ?_
   refine V.nil ?_
   refine V.bN ?_
   refine V.tN ?_
   refine V.region ?_
   refine V.addN rfl rfl rfl rfl rfl (by first | omega | (simp only [List.length_take, List.length_drop, List.length_append, List.length_cons, List.length_nil, List.length_replicate, List.length_set, V.length_data, V.S_size]; omega)) (by first | omega | (simp only [List.length_take, List.length_drop, List.length_append, List.length_cons, List.length_nil, List.length_replicate, List.length_set, V.length_data, V.S_size]; omega)) ?_
   refine V.run T_ok 1 rfl ?_
   refine V.nil ?_
   refine V.tN ?_
   exact ⟨_, (by omega), rfl, (k + 1), rfl, (by omega), (congrArg (Value.int .u32) (crc1_goK k (crcL (b.take i) ^^^ bOf x9))), rfl, rfl, rfl, rfl⟩
  ·
   try replace h7 := V.dec h7
   try simp only [V.mk0, V.mk1, V.mk2, V.mk3] at h7
   refine V.exit ?_
   refine V.tX ?_
   refine V.tX ?_
   refine V.bE ?_
   refine V.bN ?_
   refine V.tN ?_
   refine V.region ?_
   refine V.addN rfl rfl rfl rfl rfl (by first | omega | (simp only [List.length_take, List.length_drop, List.length_append, List.length_cons, List.length_nil, List.length_replicate, List.length_set, V.length_data, V.S_size]; omega)) (by first | omega | (simp only [List.length_take, List.length_drop, List.length_append, List.length_cons, List.length_nil, List.length_replicate, List.length_set, V.length_data, V.S_size]; omega)) ?_
   refine V.run T_ok 1 rfl ?_
   refine V.nil ?_
   refine V.tN ?_
   have hk8 : k = 8 := by omega
   subst hk8
   have hsn := crcL_next b i (by omega) hx9
   exact ⟨_, (by omega), rfl, (i + 1), rfl, (by omega), (congrArg (fun z : BitVec 32 => Value.int .u32 (z.toNat : Int)) hsn), rfl, rfl, rfl⟩
 ·
  try replace h3 := V.dec h3
  try simp only [V.mk0, V.mk1, V.mk2, V.mk3] at h3
  refine V.exit ?_
  refine V.tX ?_
  refine V.tX ?_
  refine V.bE ?_
  refine V.tN ?_
  refine V.seq ?_
  refine V.region ?_
  refine V.run T_ok 3 rfl ?_
  refine V.nil ?_
  refine V.tN ?_
  refine V.ret ?_
  refine V.done rfl ?_
  have hib : i = b.length := by omega
  subst hib
  exact ⟨congrArg (Value.int .u32) (not32L b), rfl⟩

set_option maxHeartbeats 900000 in
set_option maxRecDepth 10000 in
theorem four_spec {w : World}  {n : Int} (h0 : 0 ≤ n) :
    Meets Try.prog 73 [.int .u32 n] w fun r w' => ∃ (ra14 : Option Addr) (rc14 : Nat), r = .slice ra14 (fourI n).length rc14 ∧ V.Row V.Cod.byte 5 w' V.None' w.heap.size w'.heap.size ra14 rc14 (fourI n) ∧ Gr w w' := by
 have HG := V.Fr.refl [] w
 refine V.enter (n := 15) Try.func73 rfl rfl (by decide) rfl ?_
 refine V.seq ?_
 refine V.region ?_
 refine V.run T_ok 1 rfl ?_
 refine V.nil ?_
 refine V.tN ?_
 refine V.seq ?_
 refine V.region ?_
 refine V.run T_ok 2 rfl ?_
 refine V.run T_ok 1 rfl ?_
 refine V.run T_ok 2 rfl ?_
 refine V.run T_ok 1 rfl ?_
 refine V.run T_ok 2 rfl ?_
 refine V.run T_ok 1 rfl ?_
 refine V.run T_ok 1 rfl ?_
 refine V.run T_ok 1 rfl ?_
 refine V.mkSlice T_ok zero5 rfl rfl sz5 rfl rfl rfl rfl rfl rfl ?_
 rintro k1 w4 s6 s7 G5 Fk2
 have z8 := V.Fr.size G5
 replace HG := HG.grow G5
 clear G5
 have F3 := V.rowOfB (xs := ([(UInt8.ofNat (n.toNat / 16777216)), (UInt8.ofNat (n.toNat / 65536)), (UInt8.ofNat (n.toNat / 256)), (UInt8.ofNat (n.toNat))] : List UInt8)) Fk2 (V.cb_cons (shr8 n h0 24 (by decide)) (V.cb_cons (shr8 n h0 16 (by decide)) (V.cb_cons (shr8 n h0 8 (by decide)) (V.cb_cons (V.cut8 n h0) V.cb_nil)))) rfl
 clear Fk2
 refine V.run T_ok 1 rfl ?_
 refine V.nil ?_
 refine V.tN ?_
 refine V.ret ?_
 refine V.done rfl ?_
 exact ⟨(some ⟨k1, 0, none⟩), (([(UInt8.ofNat (n.toNat / 16777216)), (UInt8.ofNat (n.toNat / 65536)), (UInt8.ofNat (n.toNat / 256)), (UInt8.ofNat (n.toNat))] : List UInt8).length), (by first | rfl | simp only [List.length_set]), F3.re, HG⟩

set_option maxHeartbeats 900000 in
set_option maxRecDepth 10000 in
theorem rfour_spec {w : World}  {n : Int} (h0 : 0 ≤ n) (h1 : n < 4294967296) :
    Meets Try.prog 75 [.int .u32 n] w fun r w' => ∃ (ra15 : Option Addr) (rc15 : Nat), r = .slice ra15 (fourI n).length rc15 ∧ V.Row V.Cod.byte 5 w' V.None' w.heap.size w'.heap.size ra15 rc15 (fourI n) ∧ Gr w w' := by
 have HG := V.Fr.refl [] w
 refine V.enter (n := 15) Try.func75 rfl rfl (by decide) rfl ?_
 refine V.seq ?_
 refine V.region ?_
 refine V.run T_ok 1 rfl ?_
 refine V.nil ?_
 refine V.tN ?_
 refine V.seq ?_
 refine V.region ?_
 refine V.run T_ok 2 rfl ?_
 refine V.run T_ok 1 rfl ?_
 refine V.run T_ok 2 rfl ?_
 refine V.run T_ok 1 rfl ?_
 refine V.run T_ok 2 rfl ?_
 refine V.run T_ok 1 rfl ?_
 refine V.run T_ok 1 rfl ?_
 refine V.run T_ok 1 rfl ?_
 refine V.mkSlice T_ok zero5 rfl rfl sz5 rfl rfl rfl rfl rfl rfl ?_
 rintro k1 w4 s6 s7 G5 Fk2
 have z8 := V.Fr.size G5
 replace HG := HG.grow G5
 clear G5
 have F3 := V.rowOfB (xs := ([(UInt8.ofNat (n.toNat / 16777216)), (UInt8.ofNat (n.toNat / 65536)), (UInt8.ofNat (n.toNat / 256)), (UInt8.ofNat (n.toNat))] : List UInt8)) Fk2 (V.cb_cons (quo8 n h0 h1 16777216) (V.cb_cons (quo8 n h0 h1 65536) (V.cb_cons (quo8 n h0 h1 256) (V.cb_cons (V.cut8 n h0) V.cb_nil)))) rfl
 clear Fk2
 refine V.run T_ok 1 rfl ?_
 refine V.nil ?_
 refine V.tN ?_
 refine V.ret ?_
 refine V.done rfl ?_
 exact ⟨(some ⟨k1, 0, none⟩), (([(UInt8.ofNat (n.toNat / 16777216)), (UInt8.ofNat (n.toNat / 65536)), (UInt8.ofNat (n.toNat / 256)), (UInt8.ofNat (n.toNat))] : List UInt8).length), (by first | rfl | simp only [List.length_set]), F3.re, HG⟩

set_option maxHeartbeats 900000 in
set_option maxRecDepth 10000 in
theorem number4_spec {w : World}  {D_b : Nat → Prop} {c_b : Nat} {a_b : Option Addr} {b : List UInt8} (F_b : Sl V.Cod.byte w D_b a_b c_b b) (h4 : 4 ≤ b.length) :
    Meets Try.prog 81 [.slice a_b b.length c_b] w fun r w' => r = .int .u32 ((beN (b.take 4)).toNat : Int) ∧ w = w' := by
 replace F_b := F_b.flb
 refine V.enter (n := 20) Try.func81 rfl rfl (by decide) rfl ?_
 refine V.seq ?_
 refine V.region ?_
 refine V.run T_ok 1 rfl ?_
 refine V.nil ?_
 refine V.tN ?_
 refine V.seq ?_
 refine V.region ?_
 refine V.run T_ok 1 rfl ?_
 refine V.nil ?_
 refine V.tN ?_
 refine V.seq ?_
 refine V.seq ?_
 refine V.region ?_
 refine V.run T_ok 1 rfl ?_
 refine V.cutL T_ok F_b rfl rfl sz5 rfl rfl rfl rfl (by first | omega | (simp only [List.length_take, List.length_drop, List.length_append, List.length_cons, List.length_nil, List.length_replicate, List.length_set, V.length_data, V.S_size]; omega)) (by first | omega | (simp only [List.length_take, List.length_drop, List.length_append, List.length_cons, List.length_nil, List.length_replicate, List.length_set, V.length_data, V.S_size]; omega)) (fun a1 F3 => ?_)
 have hr4 : b.take ((4 : Int)).toNat = b.take 4 := by simp
 rw [hr4] at F3 ⊢
 clear hr4
 refine V.run T_ok 2 rfl ?_
 refine V.nil ?_
 refine V.tN ?_
 refine V.block ?_
 have hlt4 : (b.take 4).length = 4 := by rw [List.length_take]; omega
 have hl63 := F_b.len63
 refine V.loopM (fun m e v6 => w = v6 ∧ ∃ (i : Nat) , m = (b.take 4).length - i ∧ i ≤ (b.take 4).length ∧ e 3 = .int .u32 ((beN ((b.take 4).take i)).toNat : Int) ∧ e 7 = .slice a1 (b.take 4).length c_b ∧ e 8 = .int .i64 ((b.take 4).length : Int) ∧ e 9 = .int .i64 (i : Int)) ?_ ?_
 ·
  exact ⟨_, rfl, (0), rfl, (Nat.zero_le _), (congrArg (Value.int .u32) (beN0 (b.take 4))), rfl, rfl, rfl⟩
 rintro _ e v6 ⟨rfl, i, rfl, hi, he0_3, he0_7, he0_8, he0_9⟩
 refine V.knownC (t := 3) he0_3 ?_
 refine V.knownC (t := 7) he0_7 ?_
 refine V.knownC (t := 8) he0_8 ?_
 refine V.knownC (t := 9) he0_9 ?_
 refine V.seq ?_
 refine V.region ?_
 refine V.run T_ok 1 rfl ?_
 refine V.nil ?_
 refine V.tN ?_
 refine V.seq ?_
 refine V.condT rfl (fun h3 => ?_) (fun h3 => ?_)
 ·
  try replace h3 := V.dec h3
  try simp only [V.mk0, V.mk1, V.mk2, V.mk3] at h3
  refine V.skip ?_
  refine V.tN ?_
  refine V.seq ?_
  refine V.block ?_
  refine V.seq ?_
  refine V.region ?_
  refine V.elem T_ok F3 rfl rfl sz5 rfl rfl rfl rfl (by first | omega | (simp only [List.length_take, List.length_drop, List.length_append, List.length_cons, List.length_nil, List.length_replicate, List.length_set, V.length_data, V.S_size]; omega)) (by first | omega | (simp only [List.length_take, List.length_drop, List.length_append, List.length_cons, List.length_nil, List.length_replicate, List.length_set, V.length_data, V.S_size]; omega)) ?_
  rintro b7 o8 cs9 hx10 hb11 hR14 hA12
  obtain ⟨x13, hx13⟩ : ∃ z', (b.take 4)[((i : Int)).toNat] = z' := ⟨_, rfl⟩
  rw [hx13] at hR14
  obtain rfl := hR14
  try simp only [Int.toNat_natCast] at hx13 hx10
  refine V.loadA T_ok (o0 := o8) (off := 0) hA12 rfl rfl rfl rfl rfl ?_
  refine V.run T_ok 1 rfl ?_
  refine V.nil ?_
  refine V.tN ?_
  have hc255 := UInt8.toNat_lt x13
  refine V.region ?_
  refine V.run T_ok 3 rfl ?_
  first | refine V.cnvN T_ok rfl rfl rfl rfl rfl rfl (V.wrap_u32 (by omega) (by omega)) ?_ | refine V.run T_ok 1 rfl ?_
  refine V.run T_ok 2 rfl ?_
  refine V.nil ?_
  refine V.bN ?_
  refine V.tN ?_
  refine V.region ?_
  refine V.addN rfl rfl rfl rfl rfl (by first | omega | (simp only [List.length_take, List.length_drop, List.length_append, List.length_cons, List.length_nil, List.length_replicate, List.length_set, V.length_data, V.S_size]; omega)) (by first | omega | (simp only [List.length_take, List.length_drop, List.length_append, List.length_cons, List.length_nil, List.length_replicate, List.length_set, V.length_data, V.S_size]; omega)) ?_
  refine V.run T_ok 1 rfl ?_
  refine V.nil ?_
  refine V.tN ?_
  exact ⟨_, (by omega), rfl, (i + 1), rfl, (by omega), (congrArg (Value.int .u32) (beN_go (b.take 4) i (by omega) hx13)), rfl, rfl, rfl⟩
 ·
  try replace h3 := V.dec h3
  try simp only [V.mk0, V.mk1, V.mk2, V.mk3] at h3
  refine V.exit ?_
  refine V.tX ?_
  refine V.tX ?_
  refine V.bE ?_
  refine V.tN ?_
  refine V.seq ?_
  refine V.region ?_
  refine V.run T_ok 2 rfl ?_
  refine V.nil ?_
  refine V.tN ?_
  refine V.ret ?_
  refine V.done rfl ?_
  have hib : i = (b.take 4).length := by omega
  subst hib
  exact ⟨congrArg (fun z : BitVec 32 => Value.int .u32 (z.toNat : Int)) (by rw [List.take_length]), rfl⟩

set_option maxHeartbeats 900000 in
set_option maxRecDepth 10000 in
theorem frame_spec {w : World}  {D_b : Nat → Prop} {c_b : Nat} {a_b : Option Addr} {b : List UInt8} (F_b : Sl V.Cod.byte w D_b a_b c_b b) (hD_b : ∀ k, D_b k → k < w.heap.size)  :
    Meets Try.prog 58 [.slice a_b b.length c_b] w fun r w' => ∃ (ra16 : Option Addr) (rc16 : Nat), r = .tuple #[.slice ra16 ((frmB b).1).length rc16, .int .i64 ((frmB b).2)] ∧ V.Row V.Cod.byte 5 w' V.None' w.heap.size w'.heap.size ra16 rc16 ((frmB b).1) ∧ Gr w w' := by
 have HG := V.Fr.refl [] w
 refine V.enter (n := 24) Try.func58 rfl rfl (by decide) rfl ?_
 refine V.seq ?_
 refine V.region ?_
 refine V.run T_ok 2 rfl ?_
 refine V.nil ?_
 refine V.tN ?_
 refine V.seq ?_
 refine V.seq ?_
 refine V.region ?_
 refine V.run T_ok 4 rfl ?_
 refine V.orG T_ok 3 3 8 rfl rfl rfl rfl rfl rfl rfl rfl ?_
 refine V.nil ?_
 refine V.tN ?_
 refine V.condT rfl (fun h1 => ?_) (fun h1 => ?_)
 ·
  try replace h1 := V.dec h1
  try simp only [V.mk0, V.mk1, V.mk2, V.mk3] at h1
  refine V.seq ?_
  refine V.region ?_
  refine V.run T_ok 2 rfl ?_
  refine V.nil ?_
  refine V.tN ?_
  refine V.ret ?_
  refine V.tR ?_
  refine V.done rfl ?_
  rw [show frmB b = ([], 21) by unfold frmB; rw [if_pos (by omega)]]
  exact ⟨none, 0, (by first | rfl | simp only [List.length_set]), V.Row.nil, HG⟩
 ·
  try replace h1 := V.dec h1
  try simp only [V.mk0, V.mk1, V.mk2, V.mk3] at h1
  refine V.skip ?_
  refine V.tN ?_
  refine V.seq ?_
  have h41 := fourI_len b.length
  have h42 := fourI_len (sumB b).toNat
  refine V.region ?_
  refine V.run T_ok 2 rfl ?_
  first | refine V.cnvN T_ok rfl rfl rfl rfl rfl rfl (V.wrap_u32 (by omega) (by omega)) ?_ | refine V.run T_ok 1 rfl ?_
  refine V.call (four_spec (n := (b.length : Int)) (by omega)) rfl rfl rfl ?_
  rintro _ w4 ⟨a1, c2, rfl, F3, G5⟩
  have z6 := V.Fr.size G5
  try replace F_b := F_b.gr G5
  replace HG := HG.grow G5
  clear G5
  refine V.run T_ok 1 rfl ?_
  refine V.call (sum_spec F_b) rfl rfl rfl ?_
  rintro _ w4_ ⟨rfl, rfl⟩
  refine V.call (four_spec (n := ((sumB b).toNat : Int)) (by omega)) rfl rfl rfl ?_
  rintro _ w11 ⟨a8, c9, rfl, F10, G12⟩
  have z13 := V.Fr.size G12
  try replace F_b := F_b.gr G12
  try replace F3 := F3.gr G12
  replace HG := HG.grow G12
  clear G12
  refine V.appendR (F3) (V.From.flat V.flat_byte (D' := V.None') (F10.sl.from Try.underlying22)) elT22_22 rfl rfl rfl rfl rfl (by first | omega | (simp only [List.length_take, List.length_drop, List.length_append, List.length_cons, List.length_nil, List.length_replicate, List.length_set, V.length_data, V.S_size]; omega)) (by unfold maxLen; first | omega | (simp only [List.length_take, List.length_drop, List.length_append, List.length_cons, List.length_nil, List.length_replicate, List.length_set, V.length_data, V.S_size]; omega)) (by omega) (by omega) (fun _ h => h.elim) (fun _ h => h.elim) ?_
  rintro a14 c15 w17 G18 s19 F16
  clear F3
  have z20 := Go.RowKit.Below.size G18
  first | replace F_b := V.Sl.bl F_b G18 (by first | exact (fun _ h => by have := h.2; omega) | (intro k h; have := hD_b k h; omega)) | clear F_b | skip
  try replace F10 := F10.bm G18
  replace HG := HG.bl (Go.RowKit.Below.mono G18 (by omega))
  clear G18
  refine V.run T_ok 1 rfl ?_
  refine V.nil ?_
  refine V.tN ?_
  refine V.seq ?_
  refine V.region ?_
  refine V.run T_ok 2 rfl ?_
  refine V.appendR (F16) (V.From.flat V.flat_byte (D' := V.None') (F_b.from Try.underlying22)) elT22_22 rfl rfl rfl rfl rfl (by first | omega | (simp only [List.length_take, List.length_drop, List.length_append, List.length_cons, List.length_nil, List.length_replicate, List.length_set, V.length_data, V.S_size]; omega)) (by unfold maxLen; first | omega | (simp only [List.length_take, List.length_drop, List.length_append, List.length_cons, List.length_nil, List.length_replicate, List.length_set, V.length_data, V.S_size]; omega)) (by omega) (by omega) (fun _ h => h.elim) (fun _ h => h.elim) ?_
  rintro a21 c22 w24 G25 s26 F23
  clear F16
  have z27 := Go.RowKit.Below.size G25
  first | replace F_b := V.Sl.bl F_b G25 (by first | exact (fun _ h => by have := h.2; omega) | (intro k h; have := hD_b k h; omega)) | clear F_b | skip
  try replace F10 := F10.bm G25
  replace HG := HG.bl (Go.RowKit.Below.mono G25 (by omega))
  clear G25
  refine V.run T_ok 2 rfl ?_
  refine V.nil ?_
  refine V.tN ?_
  refine V.ret ?_
  refine V.done rfl ?_
  rw [show frmB b = (fourI b.length ++ fourI (sumB b).toNat ++ b, 0) by unfold frmB; rw [if_neg (by omega)]]
  exact ⟨a21, c22, (by first | rfl | simp only [List.length_set]), F23.re, HG⟩

set_option maxHeartbeats 900000 in
set_option maxRecDepth 10000 in
theorem rsum_spec {w : World}  {D_b : Nat → Prop} {c_b : Nat} {a_b : Option Addr} {b : List UInt8} (F_b : Sl V.Cod.byte w D_b a_b c_b b)  :
    Meets Try.prog 76 [.slice a_b b.length c_b] w fun r w' => r = .int .u32 ((sumB b).toNat : Int) ∧ w = w' := by
 replace F_b := F_b.flb
 refine V.enter (n := 38) Try.func76 rfl rfl (by decide) rfl ?_
 refine V.seq ?_
 refine V.region ?_
 refine V.run T_ok 1 rfl ?_
 refine V.nil ?_
 refine V.tN ?_
 refine V.seq ?_
 refine V.region ?_
 refine V.run T_ok 1 rfl ?_
 refine V.nil ?_
 refine V.tN ?_
 refine V.seq ?_
 refine V.seq ?_
 refine V.region ?_
 refine V.run T_ok 1 rfl ?_
 refine V.nil ?_
 refine V.tN ?_
 refine V.block ?_
 have hl63 := F_b.len63
 refine V.loopM (fun m e v2 => w = v2 ∧ ∃ (i : Nat) , m = b.length - i ∧ i ≤ b.length ∧ e 0 = .slice a_b b.length c_b ∧ e 3 = .int .u32 ((crcL (b.take i)).toNat : Int) ∧ e 4 = .int .i64 (i : Int)) ?_ ?_
 ·
  exact ⟨_, rfl, (0), rfl, (Nat.zero_le _), rfl, (congrArg (Value.int .u32) (crcL0 b)), rfl⟩
 rintro _ e v2 ⟨rfl, i, rfl, hi, he0_0, he0_3, he0_4⟩
 refine V.knownC (t := 0) he0_0 ?_
 refine V.knownC (t := 3) he0_3 ?_
 refine V.knownC (t := 4) he0_4 ?_
 refine V.seq ?_
 refine V.seq ?_
 refine V.region ?_
 refine V.run T_ok 4 rfl ?_
 refine V.nil ?_
 refine V.tN ?_
 refine V.condT rfl (fun h3 => ?_) (fun h3 => ?_)
 ·
  try replace h3 := V.dec h3
  try simp only [V.mk0, V.mk1, V.mk2, V.mk3] at h3
  refine V.skip ?_
  refine V.tN ?_
  refine V.seq ?_
  refine V.block ?_
  refine V.seq ?_
  refine V.region ?_
  refine V.run T_ok 1 rfl ?_
  refine V.nil ?_
  refine V.tN ?_
  refine V.block ?_
  obtain ⟨xx, hxx⟩ : ∃ z', b[i]'(by omega) = z' := ⟨_, rfl⟩
  refine V.loopM (fun m e v4 => w = v4 ∧ ∃ (k : Nat) , m = 8 - k ∧ k ≤ 8 ∧ e 0 = .slice a_b b.length c_b ∧ e 3 = .int .u32 ((refS (crcL (b.take i)) xx k).toNat : Int) ∧ e 4 = .int .i64 (i : Int) ∧ e 5 = .int .i64 (k : Int)) ?_ ?_
  ·
   exact ⟨_, rfl, (0), rfl, (Nat.zero_le _), rfl, (congrArg (Value.int .u32) (refS0I _ xx)), rfl, rfl⟩
  rintro _ e v4 ⟨rfl, k, rfl, hk, he1_0, he1_3, he1_4, he1_5⟩
  refine V.knownC (t := 0) he1_0 ?_
  refine V.knownC (t := 3) he1_3 ?_
  refine V.knownC (t := 4) he1_4 ?_
  refine V.knownC (t := 5) he1_5 ?_
  refine V.seq ?_
  refine V.seq ?_
  refine V.region ?_
  refine V.run T_ok 2 rfl ?_
  refine V.nil ?_
  refine V.tN ?_
  refine V.condT rfl (fun h6 => ?_) (fun h6 => ?_)
  ·
   try replace h6 := V.dec h6
   try simp only [V.mk0, V.mk1, V.mk2, V.mk3] at h6
   refine V.skip ?_
   refine V.tN ?_
   refine V.seq ?_
   refine V.block ?_
   refine V.seq ?_
   refine V.region ?_
   refine V.run T_ok 2 rfl ?_
   refine V.elem T_ok F_b rfl rfl sz5 rfl rfl rfl rfl (by first | omega | (simp only [List.length_take, List.length_drop, List.length_append, List.length_cons, List.length_nil, List.length_replicate, List.length_set, V.length_data, V.S_size]; omega)) (by first | omega | (simp only [List.length_take, List.length_drop, List.length_append, List.length_cons, List.length_nil, List.length_replicate, List.length_set, V.length_data, V.S_size]; omega)) ?_
   rintro b5 o6 cs7 hx8 hb9 hR12 hA10
   obtain ⟨x11, hx11⟩ : ∃ z', b[((i : Int)).toNat] = z' := ⟨_, rfl⟩
   rw [hx11] at hR12
   obtain rfl := hR12
   try simp only [Int.toNat_natCast] at hx11 hx8
   obtain rfl : xx = x11 := hxx.symm.trans hx11
   refine V.loadA T_ok (o0 := o6) (off := 0) hA10 rfl rfl rfl rfl rfl ?_
   refine V.run T_ok 1 rfl ?_
   first | refine V.cnvN T_ok rfl rfl rfl rfl rfl rfl (V.wrap_u64 (by omega) (by omega)) ?_ | refine V.run T_ok 1 rfl ?_
   refine V.shrN rfl rfl rfl rfl rfl (by first | omega | (simp only [List.length_take, List.length_drop, List.length_append, List.length_cons, List.length_nil, List.length_replicate, List.length_set, V.length_data, V.S_size]; omega)) ?_
   first | refine V.cnvN T_ok rfl rfl rfl rfl rfl rfl (V.wrap_u32 (by omega) (by omega)) ?_ | refine V.run T_ok 1 rfl ?_
   refine V.run T_ok 2 rfl ?_
   refine V.nil ?_
   refine V.tN ?_
   refine V.seq ?_
   refine V.region ?_
   refine V.run T_ok 3 rfl ?_
   refine V.nil ?_
   refine V.tN ?_
   refine V.seq ?_
   refine V.region ?_
   refine V.run T_ok 3 rfl ?_
   refine V.nil ?_
   refine V.tN ?_
   refine V.seq ?_
   refine V.region ?_
   refine V.run T_ok 3 rfl ?_
   refine V.nil ?_
   refine V.tN ?_
   refine V.condT rfl (fun h11 => ?_) (fun h11 => ?_)
   ·
    try replace h11 := V.dec h11
    try simp only [V.mk0, V.mk1, V.mk2, V.mk3] at h11
    refine V.region ?_
    refine V.run T_ok 3 rfl ?_
    refine V.nil ?_
    refine V.bN ?_
    refine V.tN ?_
    refine V.region ?_
    refine V.run T_ok 1 rfl ?_
    refine V.addN rfl rfl rfl rfl rfl (by first | omega | (simp only [List.length_take, List.length_drop, List.length_append, List.length_cons, List.length_nil, List.length_replicate, List.length_set, V.length_data, V.S_size]; omega)) (by first | omega | (simp only [List.length_take, List.length_drop, List.length_append, List.length_cons, List.length_nil, List.length_replicate, List.length_set, V.length_data, V.S_size]; omega)) ?_
    refine V.run T_ok 1 rfl ?_
    refine V.nil ?_
    refine V.tN ?_
    exact ⟨_, (by omega), rfl, (k + 1), rfl, (by omega), rfl, (congrArg (Value.int .u32) (refS_yes (crcL (b.take i)) xx k (by omega) h11)), rfl, rfl⟩
   ·
    try replace h11 := V.dec h11
    try simp only [V.mk0, V.mk1, V.mk2, V.mk3] at h11
    refine V.skip ?_
    refine V.bN ?_
    refine V.tN ?_
    refine V.region ?_
    refine V.run T_ok 1 rfl ?_
    refine V.addN rfl rfl rfl rfl rfl (by first | omega | (simp only [List.length_take, List.length_drop, List.length_append, List.length_cons, List.length_nil, List.length_replicate, List.length_set, V.length_data, V.S_size]; omega)) (by first | omega | (simp only [List.length_take, List.length_drop, List.length_append, List.length_cons, List.length_nil, List.length_replicate, List.length_set, V.length_data, V.S_size]; omega)) ?_
    refine V.run T_ok 1 rfl ?_
    refine V.nil ?_
    refine V.tN ?_
    exact ⟨_, (by omega), rfl, (k + 1), rfl, (by omega), rfl, (congrArg (Value.int .u32) (refS_no (crcL (b.take i)) xx k (by omega) h11)), rfl, rfl⟩
  ·
   try replace h6 := V.dec h6
   try simp only [V.mk0, V.mk1, V.mk2, V.mk3] at h6
   refine V.exit ?_
   refine V.tX ?_
   refine V.tX ?_
   refine V.bE ?_
   refine V.bN ?_
   refine V.tN ?_
   refine V.region ?_
   refine V.run T_ok 1 rfl ?_
   refine V.addN rfl rfl rfl rfl rfl (by first | omega | (simp only [List.length_take, List.length_drop, List.length_append, List.length_cons, List.length_nil, List.length_replicate, List.length_set, V.length_data, V.S_size]; omega)) (by first | omega | (simp only [List.length_take, List.length_drop, List.length_append, List.length_cons, List.length_nil, List.length_replicate, List.length_set, V.length_data, V.S_size]; omega)) ?_
   refine V.run T_ok 1 rfl ?_
   refine V.nil ?_
   refine V.tN ?_
   have hk8 : k = 8 := by omega
   subst hk8
   have hsn := refS8 b i (by omega) hxx
   exact ⟨_, (by omega), rfl, (i + 1), rfl, (by omega), rfl, (congrArg (fun z : BitVec 32 => Value.int .u32 (z.toNat : Int)) hsn), rfl⟩
 ·
  try replace h3 := V.dec h3
  try simp only [V.mk0, V.mk1, V.mk2, V.mk3] at h3
  refine V.exit ?_
  refine V.tX ?_
  refine V.tX ?_
  refine V.bE ?_
  refine V.tN ?_
  refine V.seq ?_
  refine V.region ?_
  refine V.run T_ok 3 rfl ?_
  refine V.nil ?_
  refine V.tN ?_
  refine V.ret ?_
  refine V.done rfl ?_
  have hib : i = b.length := by omega
  subst hib
  exact ⟨congrArg (Value.int .u32) (not32R b), rfl⟩

set_option maxHeartbeats 900000 in
set_option maxRecDepth 10000 in
theorem rframe_spec {w : World}  {D_b : Nat → Prop} {c_b : Nat} {a_b : Option Addr} {b : List UInt8} (F_b : Sl V.Cod.byte w D_b a_b c_b b) (hD_b : ∀ k, D_b k → k < w.heap.size)  :
    Meets Try.prog 60 [.slice a_b b.length c_b] w fun r w' => ∃ (ra16 : Option Addr) (rc16 : Nat), r = .tuple #[.slice ra16 ((frmB b).1).length rc16, .int .i64 ((frmB b).2)] ∧ V.Row V.Cod.byte 5 w' V.None' w.heap.size w'.heap.size ra16 rc16 ((frmB b).1) ∧ Gr w w' := by
 have HG := V.Fr.refl [] w
 refine V.enter (n := 24) Try.func60 rfl rfl (by decide) rfl ?_
 refine V.seq ?_
 refine V.region ?_
 refine V.run T_ok 2 rfl ?_
 refine V.nil ?_
 refine V.tN ?_
 refine V.seq ?_
 refine V.seq ?_
 refine V.region ?_
 refine V.run T_ok 4 rfl ?_
 refine V.orG T_ok 3 3 8 rfl rfl rfl rfl rfl rfl rfl rfl ?_
 refine V.nil ?_
 refine V.tN ?_
 refine V.condT rfl (fun h1 => ?_) (fun h1 => ?_)
 ·
  try replace h1 := V.dec h1
  try simp only [V.mk0, V.mk1, V.mk2, V.mk3] at h1
  refine V.seq ?_
  refine V.region ?_
  refine V.run T_ok 2 rfl ?_
  refine V.nil ?_
  refine V.tN ?_
  refine V.ret ?_
  refine V.tR ?_
  refine V.done rfl ?_
  rw [show frmB b = ([], 21) by unfold frmB; rw [if_pos (by omega)]]
  exact ⟨none, 0, (by first | rfl | simp only [List.length_set]), V.Row.nil, HG⟩
 ·
  try replace h1 := V.dec h1
  try simp only [V.mk0, V.mk1, V.mk2, V.mk3] at h1
  refine V.skip ?_
  refine V.tN ?_
  refine V.seq ?_
  have h41 := fourI_len b.length
  have h42 := fourI_len (sumB b).toNat
  refine V.region ?_
  refine V.run T_ok 2 rfl ?_
  first | refine V.cnvN T_ok rfl rfl rfl rfl rfl rfl (V.wrap_u32 (by omega) (by omega)) ?_ | refine V.run T_ok 1 rfl ?_
  refine V.call (rfour_spec (n := (b.length : Int)) (by omega) (by omega)) rfl rfl rfl ?_
  rintro _ w4 ⟨a1, c2, rfl, F3, G5⟩
  have z6 := V.Fr.size G5
  try replace F_b := F_b.gr G5
  replace HG := HG.grow G5
  clear G5
  refine V.run T_ok 1 rfl ?_
  refine V.call (rsum_spec F_b) rfl rfl rfl ?_
  rintro _ w4_ ⟨rfl, rfl⟩
  refine V.call (rfour_spec (n := ((sumB b).toNat : Int)) (by omega) (by omega)) rfl rfl rfl ?_
  rintro _ w11 ⟨a8, c9, rfl, F10, G12⟩
  have z13 := V.Fr.size G12
  try replace F_b := F_b.gr G12
  try replace F3 := F3.gr G12
  replace HG := HG.grow G12
  clear G12
  refine V.appendR (F3) (V.From.flat V.flat_byte (D' := V.None') (F10.sl.from Try.underlying22)) elT22_22 rfl rfl rfl rfl rfl (by first | omega | (simp only [List.length_take, List.length_drop, List.length_append, List.length_cons, List.length_nil, List.length_replicate, List.length_set, V.length_data, V.S_size]; omega)) (by unfold maxLen; first | omega | (simp only [List.length_take, List.length_drop, List.length_append, List.length_cons, List.length_nil, List.length_replicate, List.length_set, V.length_data, V.S_size]; omega)) (by omega) (by omega) (fun _ h => h.elim) (fun _ h => h.elim) ?_
  rintro a14 c15 w17 G18 s19 F16
  clear F3
  have z20 := Go.RowKit.Below.size G18
  first | replace F_b := V.Sl.bl F_b G18 (by first | exact (fun _ h => by have := h.2; omega) | (intro k h; have := hD_b k h; omega)) | clear F_b | skip
  try replace F10 := F10.bm G18
  replace HG := HG.bl (Go.RowKit.Below.mono G18 (by omega))
  clear G18
  refine V.run T_ok 1 rfl ?_
  refine V.nil ?_
  refine V.tN ?_
  refine V.seq ?_
  refine V.region ?_
  refine V.run T_ok 2 rfl ?_
  refine V.appendR (F16) (V.From.flat V.flat_byte (D' := V.None') (F_b.from Try.underlying22)) elT22_22 rfl rfl rfl rfl rfl (by first | omega | (simp only [List.length_take, List.length_drop, List.length_append, List.length_cons, List.length_nil, List.length_replicate, List.length_set, V.length_data, V.S_size]; omega)) (by unfold maxLen; first | omega | (simp only [List.length_take, List.length_drop, List.length_append, List.length_cons, List.length_nil, List.length_replicate, List.length_set, V.length_data, V.S_size]; omega)) (by omega) (by omega) (fun _ h => h.elim) (fun _ h => h.elim) ?_
  rintro a21 c22 w24 G25 s26 F23
  clear F16
  have z27 := Go.RowKit.Below.size G25
  first | replace F_b := V.Sl.bl F_b G25 (by first | exact (fun _ h => by have := h.2; omega) | (intro k h; have := hD_b k h; omega)) | clear F_b | skip
  try replace F10 := F10.bm G25
  replace HG := HG.bl (Go.RowKit.Below.mono G25 (by omega))
  clear G25
  refine V.run T_ok 2 rfl ?_
  refine V.nil ?_
  refine V.tN ?_
  refine V.ret ?_
  refine V.done rfl ?_
  rw [show frmB b = (fourI b.length ++ fourI (sumB b).toNat ++ b, 0) by unfold frmB; rw [if_neg (by omega)]]
  exact ⟨a21, c22, (by first | rfl | simp only [List.length_set]), F23.re, HG⟩

set_option maxHeartbeats 900000 in
set_option maxRecDepth 10000 in
theorem records_spec {w : World}  {D_b : Nat → Prop} {c_b : Nat} {a_b : Option Addr} {b : List UInt8} (F_b : Sl V.Cod.byte w D_b a_b c_b b)  :
    Meets Try.prog 68 [.slice a_b b.length c_b] w fun r w' => ∃ (rk1 : Nat), r = .func (.func 80) #[] #[.pointer (some ⟨rk1, 0, none⟩)] ∧ Cells w' rk1 [.slice a_b b.length c_b] 22 ∧ (w.heap.size ≤ rk1 ∧ rk1 < w'.heap.size) ∧ Gr w w' := by
 replace F_b := F_b.flb
 have HG := V.Fr.refl [] w
 refine V.enter (n := 4) Try.func68 rfl rfl (by decide) rfl ?_
 refine V.seq ?_
 refine V.region ?_
 refine V.box rfl rfl rfl rfl ?_
 rintro k1 w3 s5 s6 G4 Fk2
 have z7 := V.Fr.size G4
 try replace F_b := F_b.gr G4
 replace HG := HG.grow G4
 clear G4
 try simp only [V.cellsL, V.spliceL] at Fk2
 refine V.run T_ok 1 rfl ?_
 refine V.nil ?_
 refine V.tN ?_
 refine V.seq ?_
 refine V.region ?_
 refine V.run T_ok 2 rfl ?_
 refine V.nil ?_
 refine V.tN ?_
 refine V.ret ?_
 refine V.done rfl ?_
 exact ⟨k1, (by first | rfl | simp only [List.length_set]), Fk2, ⟨by omega, by omega⟩, HG⟩

set_option maxHeartbeats 900000 in
set_option maxRecDepth 10000 in
theorem scan_spec {w : World}  {D_b : Nat → Prop} {c_b : Nat} {a_b : Option Addr} {b : List UInt8} (F_b : Sl V.Cod.byte w D_b a_b c_b b) (hD_b : ∀ k, D_b k → k < w.heap.size) (hl : b.length ≤ 4000000) :
    Meets Try.prog 41 [.slice a_b b.length c_b] w fun r w' => ∃ (ra18 : Option Addr) (rc18 : Nat), r = .tuple #[.slice ra18 ((scanB b).1).length rc18, .int .i64 ((scanB b).2 : Int)] ∧ V.Row (V.Cod.own 5) 22 w' V.None' w.heap.size w'.heap.size ra18 rc18 ((scanB b).1) ∧ Gr w w' := by
 have HG := V.Fr.refl [] w
 refine V.denter (n := 22) Try.func41 rfl rfl (by decide) rfl ?_
 refine V.dseq ?_
 refine V.dregion ?_
 refine V.run T_ok 2 rfl ?_
 refine V.nil ?_
 refine V.dtN ?_
 refine V.dseq ?_
 refine V.dregion ?_
 refine V.alloc zero54 rfl rfl rfl ?_
 rintro k1 w3 s5 s6 G4 Fk2
 have z7 := V.Fr.size G4
 try replace F_b := F_b.gr G4
 replace HG := HG.grow G4
 clear G4
 try simp only [V.cellsL, V.spliceL] at Fk2
 refine V.nil ?_
 refine V.dtN ?_
 refine V.dseq ?_
 refine V.dregion ?_
 refine V.alloc zero3 rfl rfl rfl ?_
 rintro k8 w10 s12 s13 G11 Fk9
 have z14 := V.Fr.size G11
 try replace F_b := F_b.gr G11
 try replace Fk2 := Fk2.gr G11
 replace HG := HG.grow G11
 clear G11
 try simp only [V.cellsL, V.spliceL] at Fk9
 refine V.storeO Fk9 rfl rfl rfl rfl sz3 rfl rfl rfl rfl ?_
 rintro w15 G16 z18 Fs17
 clear Fk9
 have z19 := V.Fr.size G16
 try replace F_b := F_b.mb G16 hD_b
 try replace Fk2 := Fk2.ma G16
 replace HG := HG.n1 G16
 clear G16
 have Fk9 := Fs17; clear Fs17
 simp only [V.spliceL, V.cellsL] at Fk9
 refine V.nil ?_
 refine V.dtN ?_
 refine V.dseq ?_
 refine V.dseq ?_
 refine V.dregion ?_
 refine V.run T_ok 1 rfl ?_
 refine V.call (records_spec F_b) rfl rfl rfl ?_
 rintro _ w23 ⟨k20, rfl, F21, ⟨h22l, h22u⟩, G24⟩
 have z25 := V.Fr.size G24
 try replace F_b := F_b.gr G24
 try replace Fk2 := Fk2.gr G24
 try replace Fk9 := Fk9.gr G24
 replace HG := HG.grow G24
 clear G24
 refine V.nil ?_
 refine V.dtN ?_
 refine V.dblock ?_
 refine V.rangeF rfl (V.callable Try.func80 rfl (by decide)) ?_
 rintro fn34 r26 d27 l28 w29 hr30 G31 hd35 hl36 hs37 FD32 FL33
 have z38 := V.Fr.size G31
 try replace F_b := F_b.gr G31
 try replace Fk2 := Fk2.gr G31
 try replace Fk9 := Fk9.gr G31
 try replace F21 := F21.gr G31
 replace HG := HG.grow G31
 clear G31
 refine V.denterIn (n := 46) Try.func80 rfl rfl rfl ?_
 refine V.dblock ?_
 have hl63 := F_b.len63
 have FB := F_b
 refine V.dloopM (fun m e v40 => Fr [] w v40 ∧ w29.heap.size ≤ v40.heap.size ∧ Sl V.Cod.byte v40 D_b a_b c_b b ∧ V.ObjAt v40 d27 (.deferred (some [])) ∧ V.ObjAt v40 l28 (.loop (r26 .ready none)) ∧ ∃ (B : List UInt8) (a1 : Option Addr) (c1 : Nat) (n : Nat) (ra : Option Addr) (rc : Nat) (acc : List (List UInt8)) , m = B.length ∧ B.length ≤ b.length ∧ scanB b = (acc ++ (scanB B).1, n + (scanB B).2) ∧ acc.length ≤ n ∧ n + B.length = b.length ∧ Cells v40 k20 [.slice a1 B.length c1] 22 ∧ Sl V.Cod.byte v40 D_b a1 c1 B ∧ Cells v40 k1 [.slice ra acc.length rc] 54 ∧ Cells v40 k8 [.int .i64 (n : Int)] 3 ∧ V.Row (V.Cod.own 5) 22 v40 V.None' w29.heap.size v40.heap.size ra rc acc ∧ e 0 = .func (.yield l28) #[] #[] ∧ e 1 = .pointer (some ⟨k20, 0, none⟩)) ?_ ?_
 ·
  exact ⟨_, HG, (by omega), F_b, FD32, FL33, (b), (a_b), (c_b), (0), (none), (0), ([]), rfl, (Nat.le_refl _), ((by simp)), (Nat.le_refl _), ((by omega)), F21, F_b.re, Fk2, Fk9, V.Row.nil, rfl, rfl⟩
 clear HG F_b FD32 FL33 F21 FB Fk2 Fk9
 rintro _ e v40 ⟨HG, z41, F_b, FD32, FL33, B, a1, c1, n, ra, rc, acc, rfl, hBb, hp0, hp1, hp2, F21, FB, Fk2, Fk9, FRo, he0_0, he0_1⟩
 refine V.dknownC (t := 0) he0_0 ?_
 refine V.dknownC (t := 1) he0_1 ?_
 refine V.dseq ?_
 refine V.dseq ?_
 refine V.dregion ?_
 refine V.loadO T_ok F21 rfl rfl rfl rfl rfl ?_
 refine V.run T_ok 2 rfl ?_
 refine V.nil ?_
 refine V.dtN ?_
 refine V.dcondT rfl (fun h0 => ?_) (fun h0 => ?_)
 ·
  try replace h0 := V.dec h0
  try simp only [V.mk0, V.mk1, V.mk2, V.mk3] at h0
  refine V.dskip ?_
  refine V.dtN ?_
  refine V.dblock ?_
  refine V.dseq ?_
  refine V.dregion ?_
  refine V.loadO T_ok F21 rfl rfl rfl rfl rfl ?_
  refine V.call (number4_spec FB (by first | omega | (simp only [List.length_take, List.length_drop, List.length_append, List.length_cons, List.length_nil, List.length_replicate, List.length_set, V.length_data, V.S_size]; omega))) rfl rfl rfl ?_
  rintro _ v40_ ⟨rfl, rfl⟩
  refine V.run T_ok 1 rfl ?_
  refine V.nil ?_
  refine V.dtN ?_
  refine V.dseq ?_
  refine V.dseq ?_
  refine V.dregion ?_
  refine V.run T_ok 3 rfl ?_
  refine V.orG T_ok 2 2 12 rfl rfl rfl rfl rfl rfl rfl rfl ?_
  refine V.run T_ok 1 rfl ?_
  refine V.split (j := 6) (t := 16) rfl rfl (fun g2_6 => ?_) (fun g2_6 => ?_)
  ·
   try replace g2_6 := V.dec g2_6
   try simp only [V.mk0, V.mk1, V.mk2, V.mk3] at g2_6
   have hf0 : firstB B = none := first_no (by omega)
   refine V.run T_ok 7 rfl ?_
   refine V.nil ?_
   refine V.dtN ?_
   refine V.dcondY rfl rfl ?_
   refine V.dret ?_
   refine V.dtR ?_
   refine V.dbR ?_
   refine V.dtR ?_
   refine V.dbR ?_
   refine V.ddone0 ?_
   refine V.done rfl ?_
   refine V.iterN FL33 ?_
   rintro w43 G44
   clear FL33
   have z45 := V.Fr.size G44
   try replace F_b := F_b.mb G44 hD_b
   try replace Fk2 := Fk2.ma G44
   try replace Fk9 := Fk9.ma G44
   try replace F21 := F21.ma G44
   first | replace FD32 := FD32.mv1 G44 (by omega) | clear FD32 | skip
   try replace FB := FB.mb G44 hD_b
   try replace FRo := FRo.ma G44
   replace HG := HG.n1 G44
   clear G44
   refine V.dbN ?_
   refine V.dtN ?_
   refine V.dseq ?_
   refine V.ddrawGT 3 (V.sel []) mixed (by kernel_rfl) V.mono_nil ?_
   refine V.gloadO T_ok (fun w' h => Fk2.gr h.1) rfl rfl rfl rfl rfl rfl ?_
   refine V.gloadO T_ok (fun w' h => Fk9.gr h.1) rfl rfl rfl rfl rfl rfl ?_
   refine V.grun T_ok 1 rfl (V.sel_none rfl) ?_
   refine V.gnil ?_
   rintro w46 G47 hH48
   have z49 := V.Fr.size G47
   try replace F_b := F_b.gr G47
   try replace Fk2 := Fk2.gr G47
   try replace Fk9 := Fk9.gr G47
   try replace F21 := F21.gr G47
   try replace FD32 := FD32.gr G47
   try replace FB := FB.gr G47
   try replace FRo := FRo.gr G47
   replace HG := HG.grow G47
   clear G47
   clear hH48
   refine V.iall ?_
   refine V.run T_ok 1 rfl ?_
   refine V.nil ?_
   refine V.dtN ?_
   refine V.dret ?_
   refine V.ddone1 FD32 ?_
   rintro w50 G51
   clear FD32
   have z52 := V.Fr.size G51
   try replace F_b := F_b.mb G51 hD_b
   try replace Fk2 := Fk2.ma G51
   try replace Fk9 := Fk9.ma G51
   try replace F21 := F21.ma G51
   try replace FB := FB.mb G51 hD_b
   try replace FRo := FRo.ma G51
   replace HG := HG.n1 G51
   clear G51
   refine V.done rfl ?_
   rw [show scanB b = (acc, n) by rw [hp0, scanB_none hf0]; simp]
   exact ⟨ra, rc, (by first | rfl | simp only [List.length_set]), FRo.re, HG⟩
  ·
   try replace g2_6 := V.dec g2_6
   try simp only [V.mk0, V.mk1, V.mk2, V.mk3] at g2_6
   refine V.run T_ok 1 rfl ?_
   refine V.yes rfl rfl rfl ?_
   first | refine V.cnvN T_ok rfl rfl rfl rfl rfl rfl (V.wrap_in (by omega) (by omega)) ?_ | refine V.run T_ok 1 rfl ?_
   refine V.yes rfl rfl rfl ?_
   refine V.loadO T_ok F21 rfl rfl rfl rfl rfl ?_
   refine V.run T_ok 1 rfl ?_
   refine V.yes rfl rfl rfl ?_
   refine V.subN rfl rfl rfl rfl rfl (by first | omega | (simp only [List.length_take, List.length_drop, List.length_append, List.length_cons, List.length_nil, List.length_replicate, List.length_set, V.length_data, V.S_size]; omega)) (by first | omega | (simp only [List.length_take, List.length_drop, List.length_append, List.length_cons, List.length_nil, List.length_replicate, List.length_set, V.length_data, V.S_size]; omega)) ?_
   refine V.run T_ok 2 rfl ?_
   refine V.nil ?_
   refine V.dtN ?_
   refine V.dcondT rfl (fun h2 => ?_) (fun h2 => ?_)
   ·
    try replace h2 := V.dec h2
    try simp only [V.mk0, V.mk1, V.mk2, V.mk3] at h2
    have hf0 : firstB B = none := first_no (by omega)
    refine V.dret ?_
    refine V.dtR ?_
    refine V.dbR ?_
    refine V.dtR ?_
    refine V.dbR ?_
    refine V.ddone0 ?_
    refine V.done rfl ?_
    refine V.iterN FL33 ?_
    rintro w53 G54
    clear FL33
    have z55 := V.Fr.size G54
    try replace F_b := F_b.mb G54 hD_b
    try replace Fk2 := Fk2.ma G54
    try replace Fk9 := Fk9.ma G54
    try replace F21 := F21.ma G54
    first | replace FD32 := FD32.mv1 G54 (by omega) | clear FD32 | skip
    try replace FB := FB.mb G54 hD_b
    try replace FRo := FRo.ma G54
    replace HG := HG.n1 G54
    clear G54
    refine V.dbN ?_
    refine V.dtN ?_
    refine V.dseq ?_
    refine V.ddrawGT 3 (V.sel []) mixed (by kernel_rfl) V.mono_nil ?_
    refine V.gloadO T_ok (fun w' h => Fk2.gr h.1) rfl rfl rfl rfl rfl rfl ?_
    refine V.gloadO T_ok (fun w' h => Fk9.gr h.1) rfl rfl rfl rfl rfl rfl ?_
    refine V.grun T_ok 1 rfl (V.sel_none rfl) ?_
    refine V.gnil ?_
    rintro w56 G57 hH58
    have z59 := V.Fr.size G57
    try replace F_b := F_b.gr G57
    try replace Fk2 := Fk2.gr G57
    try replace Fk9 := Fk9.gr G57
    try replace F21 := F21.gr G57
    try replace FD32 := FD32.gr G57
    try replace FB := FB.gr G57
    try replace FRo := FRo.gr G57
    replace HG := HG.grow G57
    clear G57
    clear hH58
    refine V.iall ?_
    refine V.run T_ok 1 rfl ?_
    refine V.nil ?_
    refine V.dtN ?_
    refine V.dret ?_
    refine V.ddone1 FD32 ?_
    rintro w60 G61
    clear FD32
    have z62 := V.Fr.size G61
    try replace F_b := F_b.mb G61 hD_b
    try replace Fk2 := Fk2.ma G61
    try replace Fk9 := Fk9.ma G61
    try replace F21 := F21.ma G61
    try replace FB := FB.mb G61 hD_b
    try replace FRo := FRo.ma G61
    replace HG := HG.n1 G61
    clear G61
    refine V.done rfl ?_
    rw [show scanB b = (acc, n) by rw [hp0, scanB_none hf0]; simp]
    exact ⟨ra, rc, (by first | rfl | simp only [List.length_set]), FRo.re, HG⟩
   ·
    try replace h2 := V.dec h2
    try simp only [V.mk0, V.mk1, V.mk2, V.mk3] at h2
    refine V.dskip ?_
    refine V.dtN ?_
    refine V.dseq ?_
    refine V.dregion ?_
    refine V.loadO T_ok F21 rfl rfl rfl rfl rfl ?_
    refine V.run T_ok 1 rfl ?_
    first | refine V.cnvN T_ok rfl rfl rfl rfl rfl rfl (V.wrap_in (by omega) (by omega)) ?_ | refine V.run T_ok 1 rfl ?_
    refine V.addN rfl rfl rfl rfl rfl (by first | omega | (simp only [List.length_take, List.length_drop, List.length_append, List.length_cons, List.length_nil, List.length_replicate, List.length_set, V.length_data, V.S_size]; omega)) (by first | omega | (simp only [List.length_take, List.length_drop, List.length_append, List.length_cons, List.length_nil, List.length_replicate, List.length_set, V.length_data, V.S_size]; omega)) ?_
    refine V.cut T_ok FB rfl rfl sz5 rfl rfl rfl rfl rfl rfl rfl (by first | omega | (simp only [List.length_take, List.length_drop, List.length_append, List.length_cons, List.length_nil, List.length_replicate, List.length_set, V.length_data, V.S_size]; omega)) (by first | omega | (simp only [List.length_take, List.length_drop, List.length_append, List.length_cons, List.length_nil, List.length_replicate, List.length_set, V.length_data, V.S_size]; omega)) (by first | omega | (simp only [List.length_take, List.length_drop, List.length_append, List.length_cons, List.length_nil, List.length_replicate, List.length_set, V.length_data, V.S_size]; omega)) (fun a63 c64 F65 _ => ?_)
    have hr66 : (B.drop ((8 : Int)).toNat).take ((8 + ((beN (B.take 4)).toNat : Int)) - (8 : Int)).toNat = secB B := secB_at B
    rw [hr66] at F65 ⊢
    clear hr66
    have hrl := secB_len (b := B) (by omega)
    refine V.run T_ok 1 rfl ?_
    refine V.nil ?_
    refine V.dtN ?_
    refine V.dseq ?_
    refine V.dseq ?_
    refine V.ddrawGT 9 (V.sel [(1, (fun v wz => v = .int .u32 ((sumB (secB B)).toNat : Int))), (4, (fun v wz => v = .int .u32 ((beN ((B.drop ((4 : Int)).toNat).take 4)).toNat : Int)))]) mixed (by kernel_rfl) (V.mono_cons V.eqV_mono (V.mono_cons V.eqV_mono V.mono_nil)) ?_
    refine V.grun T_ok 1 rfl (V.sel_none rfl) ?_
    refine V.gcall (fun w' h => (sum_spec (F65.gr h.1)).mono (by rintro v w'' ⟨rfl, rfl⟩; exact ⟨rfl, V.Fr.refl _ _⟩)) rfl rfl rfl rfl ?_
    rintro _ w67 - - rfl
    refine V.gloadO T_ok (fun w' h => F21.gr h.1) rfl rfl rfl rfl rfl rfl ?_
    refine V.gcutD T_ok FB rfl rfl sz5 rfl rfl rfl rfl (by first | omega | (simp only [List.length_take, List.length_drop, List.length_append, List.length_cons, List.length_nil, List.length_replicate, List.length_set, V.length_data, V.S_size]; omega)) (by first | omega | (simp only [List.length_take, List.length_drop, List.length_append, List.length_cons, List.length_nil, List.length_replicate, List.length_set, V.length_data, V.S_size]; omega)) (fun a68 c69 F70 => ?_)
    refine V.gcall (fun w' h => (number4_spec (F70.gr h.1) (by first | omega | (simp only [List.length_take, List.length_drop, List.length_append, List.length_cons, List.length_nil, List.length_replicate, List.length_set, V.length_data, V.S_size]; omega))).mono (by rintro v w'' ⟨rfl, rfl⟩; exact ⟨rfl, V.Fr.refl _ _⟩)) rfl rfl rfl rfl ?_
    rintro _ w71 - - rfl
    refine V.grun T_ok 2 rfl (V.sel_none rfl) ?_
    refine V.gsplit (j := 6) (t := 35) rfl rfl (fun g4_6 => ?_) (fun g4_6 => ?_)
    ·
     try replace g4_6 := V.dec g4_6
     try simp only [V.mk0, V.mk1, V.mk2, V.mk3] at g4_6
     have hf0 : firstB B = none := first_no (fun h => g4_6 (bvI.2 (by simpa using h.2.2.2.2)))
     refine V.grun T_ok 2 rfl (V.sel_none rfl) ?_
     refine V.gnil ?_
     rintro w72 G73 hH74
     have z75 := V.Fr.size G73
     try replace F_b := F_b.gr G73
     try replace Fk2 := Fk2.gr G73
     try replace Fk9 := Fk9.gr G73
     try replace F21 := F21.gr G73
     try replace FD32 := FD32.gr G73
     try replace FL33 := FL33.gr G73
     try replace FB := FB.gr G73
     try replace FRo := FRo.gr G73
     try replace F65 := F65.gr G73
     try replace F70 := F70.gr G73
     replace HG := HG.grow G73
     clear G73
     clear hH74
     refine V.icut 0 ?_
     refine V.nil ?_
     refine V.icutN ?_
     refine V.iall ?_
     refine V.run T_ok 3 rfl ?_
     refine V.nil ?_
     refine V.dtN ?_
     refine V.dcondY rfl rfl ?_
     refine V.dret ?_
     refine V.dtR ?_
     refine V.dbR ?_
     refine V.dtR ?_
     refine V.dbR ?_
     refine V.ddone0 ?_
     refine V.done rfl ?_
     refine V.iterN FL33 ?_
     rintro w76 G77
     clear FL33
     have z78 := V.Fr.size G77
     try replace F_b := F_b.mb G77 hD_b
     try replace Fk2 := Fk2.ma G77
     try replace Fk9 := Fk9.ma G77
     try replace F21 := F21.ma G77
     first | replace FD32 := FD32.mv1 G77 (by omega) | clear FD32 | skip
     try replace FB := FB.mb G77 hD_b
     try replace FRo := FRo.ma G77
     try replace F65 := F65.mb G77 hD_b
     try replace F70 := F70.mb G77 hD_b
     replace HG := HG.n1 G77
     clear G77
     refine V.dbN ?_
     refine V.dtN ?_
     refine V.dseq ?_
     refine V.ddrawGT 3 (V.sel []) mixed (by kernel_rfl) V.mono_nil ?_
     refine V.gloadO T_ok (fun w' h => Fk2.gr h.1) rfl rfl rfl rfl rfl rfl ?_
     refine V.gloadO T_ok (fun w' h => Fk9.gr h.1) rfl rfl rfl rfl rfl rfl ?_
     refine V.grun T_ok 1 rfl (V.sel_none rfl) ?_
     refine V.gnil ?_
     rintro w79 G80 hH81
     have z82 := V.Fr.size G80
     try replace F_b := F_b.gr G80
     try replace Fk2 := Fk2.gr G80
     try replace Fk9 := Fk9.gr G80
     try replace F21 := F21.gr G80
     try replace FD32 := FD32.gr G80
     try replace FB := FB.gr G80
     try replace FRo := FRo.gr G80
     try replace F65 := F65.gr G80
     try replace F70 := F70.gr G80
     replace HG := HG.grow G80
     clear G80
     clear hH81
     refine V.iall ?_
     refine V.run T_ok 1 rfl ?_
     refine V.nil ?_
     refine V.dtN ?_
     refine V.dret ?_
     refine V.ddone1 FD32 ?_
     rintro w83 G84
     clear FD32
     have z85 := V.Fr.size G84
     try replace F_b := F_b.mb G84 hD_b
     try replace Fk2 := Fk2.ma G84
     try replace Fk9 := Fk9.ma G84
     try replace F21 := F21.ma G84
     try replace FB := FB.mb G84 hD_b
     try replace FRo := FRo.ma G84
     try replace F65 := F65.mb G84 hD_b
     try replace F70 := F70.mb G84 hD_b
     replace HG := HG.n1 G84
     clear G84
     refine V.done rfl ?_
     rw [show scanB b = (acc, n) by rw [hp0, scanB_none hf0]; simp]
     exact ⟨ra, rc, (by first | rfl | simp only [List.length_set]), FRo.re, HG⟩
    ·
     try replace g4_6 := V.dec g4_6
     try simp only [V.mk0, V.mk1, V.mk2, V.mk3] at g4_6
     have hf1 : firstB B = some (secB B) := first_yes ⟨by omega, by omega, by omega, by omega, by simpa using bvI.1 g4_6⟩
     refine V.grun T_ok 2 rfl (V.sel_none rfl) ?_
     refine V.gnil ?_
     rintro w86 G87 hH88
     have z89 := V.Fr.size G87
     try replace F_b := F_b.gr G87
     try replace Fk2 := Fk2.gr G87
     try replace Fk9 := Fk9.gr G87
     try replace F21 := F21.gr G87
     try replace FD32 := FD32.gr G87
     try replace FL33 := FL33.gr G87
     try replace FB := FB.gr G87
     try replace FRo := FRo.gr G87
     try replace F65 := F65.gr G87
     try replace F70 := F70.gr G87
     replace HG := HG.grow G87
     clear G87
     clear hH88
     refine V.icut 0 ?_
     refine V.nil ?_
     refine V.icutN ?_
     refine V.iyes rfl rfl rfl rfl ?_
     refine V.iyield rfl rfl rfl rfl hr30 FL33 rfl ?_
     refine V.dregion ?_
     refine V.run T_ok 1 rfl ?_
     refine V.nil ?_
     refine V.beginN FL33 ?_
     rintro w90 G91 Fn92
     clear FL33
     have z93 := V.Fr.size G91
     try replace F_b := F_b.mb G91 hD_b
     try replace Fk2 := Fk2.ma G91
     try replace Fk9 := Fk9.ma G91
     try replace F21 := F21.ma G91
     first | replace FD32 := FD32.mv1 G91 (by omega) | clear FD32 | skip
     try replace FB := FB.mb G91 hD_b
     try replace FRo := FRo.ma G91
     try replace F65 := F65.mb G91 hD_b
     try replace F70 := F70.mb G91 hD_b
     replace HG := HG.n1 G91
     clear G91
     have FL33 := Fn92; clear Fn92
     refine V.dblock ?_
     refine V.dseq ?_
     refine V.ddrawGT 4 (V.sel [(2, (fun v wz => ∃ (ra1 : Option Addr) (rc1 : Nat), v = .slice ra1 (secB B).length rc1 ∧ V.Row V.Cod.byte 5 wz V.None' w90.heap.size wz.heap.size ra1 rc1 (secB B))), (3, V.newSl (V.Cod.own 5) w90.heap.size 1 ([(secB B)] : List (List UInt8)))]) mixed (by kernel_rfl) (V.mono_cons (by rintro v wz wz' g ⟨ra1, rc1, rfl, rF1⟩; exact ⟨ra1, rc1, rfl, (by first | exact (rF1.gr g).mono (V.In.sub (Nat.le_refl _) g.size) | exact rF1.gr g | exact (rF1.gr g).mono (fun _ h => h) (Nat.le_refl _) g.size | exact (rF1.gr g).mono (fun k h => ⟨h.1, Nat.lt_of_lt_of_le h.2 g.size⟩))⟩) (V.mono_cons V.newSl_mono V.mono_nil)) ?_
     refine V.gloadO T_ok (fun w' h => Fk2.gr h.1) rfl rfl rfl rfl rfl rfl ?_
     refine V.grun T_ok 1 rfl (V.sel_none rfl) ?_
     refine V.gcall (fun w' h => (clone_spec (F65.gr h.1) (by first | omega | (simp only [List.length_take, List.length_drop, List.length_append, List.length_cons, List.length_nil, List.length_replicate, List.length_set, V.length_data, V.S_size]; omega))).mono (by rintro v w'' ⟨ra1, rc1, rfl, rF1, G⟩; exact ⟨⟨ra1, rc1, rfl, (by first | exact rF1.mono (V.In.mono_l h.1.size) | exact rF1 | exact rF1.mono (fun _ h => h) h.1.size (Nat.le_refl _))⟩, G⟩)) rfl rfl rfl rfl ?_
     rintro _ w97 - - ⟨a94, c95, rfl, -⟩
     refine V.gmkSlice T_ok (xs := ([(secB B)] : List (List UInt8))) (C := (V.Cod.own 5)) zero22 rfl rfl sz22 rfl rfl rfl rfl rfl rfl rfl (Nat.le_refl _) (fun w' h w'' g hsz Fk => by have hz1 := h.1.size; have hz2 := g.size; exact (V.Cells.sl Fk (V.reps_cons (x := (secB B)) ⟨_, _, rfl, (V.OwnS.ofRow ((show V.Row V.Cod.byte 5 w' V.None' w90.heap.size w'.heap.size a94 c95 (secB B) from (by obtain ⟨_, _, he, F0⟩ := (V.Hist.here (h.get (i := 2) rfl)); cases he; exact F0)).gr g)).mono (fun k h => ⟨by have := h.1; omega, by have := h.2; omega⟩)⟩ rfl rfl) ⟨by have := h.1.size; omega, by omega⟩ (by simp [maxLen]))) ?_
     rintro k98
     refine V.gnil ?_
     rintro w100 G101 hH102
     have z103 := V.Fr.size G101
     try replace F_b := F_b.gr G101
     try replace Fk2 := Fk2.gr G101
     try replace Fk9 := Fk9.gr G101
     try replace F21 := F21.gr G101
     try replace FD32 := FD32.gr G101
     try replace FB := FB.gr G101
     try replace FRo := FRo.gr G101
     try replace F65 := F65.gr G101
     try replace F70 := F70.gr G101
     try replace FL33 := FL33.gr G101
     replace HG := HG.grow G101
     clear G101
     have F96 : V.Row V.Cod.byte 5 w100 V.None' w90.heap.size w100.heap.size a94 c95 (secB B) := by
       obtain ⟨_, _, he, F0⟩ := (V.Hist.here (V.Hist.old (hH102 2)))
       cases he
       exact F0
     have F99 := V.newSl_get (V.Hist.here (hH102 3))
     clear hH102
     refine V.iall ?_
     refine V.appendR (FRo) (F99.from Try.underlying54) elT54_54 rfl rfl rfl rfl rfl (by first | omega | (simp only [List.length_take, List.length_drop, List.length_append, List.length_cons, List.length_nil, List.length_replicate, List.length_set, V.length_data, V.S_size]; omega)) (by unfold maxLen; first | omega | (simp only [List.length_take, List.length_drop, List.length_append, List.length_cons, List.length_nil, List.length_replicate, List.length_set, V.length_data, V.S_size]; omega)) (by omega) (by omega) (fun _ h => h.elim) (by first | omega | (intro k h; (try dsimp only at h); first | exact .inl h | exact .inr ⟨by have := h.1; omega, by have := h.2; omega⟩ | (rcases h with h | h <;> first | exact .inr ⟨by omega, by omega⟩ | exact .inr ⟨by have := h.1; omega, by have := h.2; omega⟩ | exact .inl h))) ?_
     rintro a104 c105 w107 G108 s109 F106
     clear FRo
     have z110 := Go.RowKit.Below.size G108
     first | replace F_b := V.Sl.bl F_b G108 (by first | exact (fun _ h => by have := h.2; omega) | (intro k h; have := hD_b k h; omega)) | clear F_b | skip
     first | replace Fk2 := V.Cells.bl Fk2 G108 (by omega) | clear Fk2 | skip
     first | replace Fk9 := V.Cells.bl Fk9 G108 (by omega) | clear Fk9 | skip
     first | replace F21 := V.Cells.bl F21 G108 (by omega) | clear F21 | skip
     first | replace FD32 := V.ObjAt.bl FD32 G108 (by omega) | clear FD32 | skip
     first | replace FB := V.Sl.bl FB G108 (by first | exact (fun _ h => by have := h.2; omega) | (intro k h; have := hD_b k h; omega)) | clear FB | skip
     first | replace F65 := V.Sl.bl F65 G108 (by first | exact (fun _ h => by have := h.2; omega) | (intro k h; have := hD_b k h; omega)) | clear F65 | skip
     first | replace F70 := V.Sl.bl F70 G108 (by first | exact (fun _ h => by have := h.2; omega) | (intro k h; have := hD_b k h; omega)) | clear F70 | skip
     first | replace FL33 := V.ObjAt.bl FL33 G108 (by omega) | clear FL33 | skip
     try replace F96 := F96.bm G108
     first | replace F99 := V.Sl.bl F99 G108 (by first | exact (fun _ h => by have := h.2; omega) | (intro k h; have := hD k h; omega)) | clear F99 | skip
     replace HG := HG.bl (Go.RowKit.Below.mono G108 (by omega))
     clear G108
     refine V.storeO Fk2 rfl rfl rfl rfl sz54 rfl rfl rfl rfl ?_
     rintro w111 G112 z114 Fs113
     clear Fk2
     have z115 := V.Fr.size G112
     try replace F_b := F_b.mb G112 hD_b
     try replace Fk9 := Fk9.ma G112
     try replace F21 := F21.ma G112
     first | replace FD32 := FD32.mv1 G112 (by omega) | clear FD32 | skip
     try replace FB := FB.mb G112 hD_b
     try replace F65 := F65.mb G112 hD_b
     try replace F70 := F70.mb G112 hD_b
     first | replace FL33 := FL33.mv1 G112 (by omega) | clear FL33 | skip
     try replace F96 := F96.ma G112
     try replace F99 := F99.ma G112
     try replace F106 := F106.ma G112
     replace HG := HG.n1 G112
     clear G112
     have Fk2 := Fs113; clear Fs113
     simp only [V.spliceL, V.cellsL] at Fk2
     refine V.nil ?_
     refine V.dtN ?_
     refine V.dregion ?_
     refine V.loadO T_ok Fk9 rfl rfl rfl rfl rfl ?_
     refine V.run T_ok 2 rfl ?_
     refine V.addN rfl rfl rfl rfl rfl (by first | omega | (simp only [List.length_take, List.length_drop, List.length_append, List.length_cons, List.length_nil, List.length_replicate, List.length_set, V.length_data, V.S_size]; omega)) (by first | omega | (simp only [List.length_take, List.length_drop, List.length_append, List.length_cons, List.length_nil, List.length_replicate, List.length_set, V.length_data, V.S_size]; omega)) ?_
     refine V.addN rfl rfl rfl rfl rfl (by first | omega | (simp only [List.length_take, List.length_drop, List.length_append, List.length_cons, List.length_nil, List.length_replicate, List.length_set, V.length_data, V.S_size]; omega)) (by first | omega | (simp only [List.length_take, List.length_drop, List.length_append, List.length_cons, List.length_nil, List.length_replicate, List.length_set, V.length_data, V.S_size]; omega)) ?_
     refine V.storeO Fk9 rfl rfl rfl rfl sz3 rfl rfl rfl rfl ?_
     rintro w116 G117 z119 Fs118
     clear Fk9
     have z120 := V.Fr.size G117
     try replace F_b := F_b.mb G117 hD_b
     try replace F21 := F21.ma G117
     first | replace FD32 := FD32.mv1 G117 (by omega) | clear FD32 | skip
     try replace FB := FB.mb G117 hD_b
     try replace F65 := F65.mb G117 hD_b
     try replace F70 := F70.mb G117 hD_b
     first | replace FL33 := FL33.mv1 G117 (by omega) | clear FL33 | skip
     try replace F96 := F96.ma G117
     try replace F99 := F99.ma G117
     try replace F106 := F106.ma G117
     try replace Fk2 := Fk2.ma G117
     replace HG := HG.n1 G117
     clear G117
     have Fk9 := Fs118; clear Fs118
     simp only [V.spliceL, V.cellsL] at Fk9
     refine V.nil ?_
     refine V.dbN ?_
     refine V.roundN FL33 ?_
     rintro w121 G122 Fn123
     clear FL33
     have z124 := V.Fr.size G122
     try replace F_b := F_b.mb G122 hD_b
     try replace F21 := F21.ma G122
     first | replace FD32 := FD32.mv1 G122 (by omega) | clear FD32 | skip
     try replace FB := FB.mb G122 hD_b
     try replace F65 := F65.mb G122 hD_b
     try replace F70 := F70.mb G122 hD_b
     try replace F96 := F96.ma G122
     try replace F99 := F99.ma G122
     try replace F106 := F106.ma G122
     try replace Fk2 := Fk2.ma G122
     try replace Fk9 := Fk9.ma G122
     replace HG := HG.n1 G122
     clear G122
     have FL33 := Fn123; clear Fn123
     refine V.iall ?_
     refine V.run T_ok 2 rfl ?_
     refine V.nil ?_
     refine V.dtN ?_
     refine V.dcondN rfl rfl ?_
     refine V.dskip ?_
     refine V.dtN ?_
     refine V.dregion ?_
     refine V.loadO T_ok F21 rfl rfl rfl rfl rfl ?_
     refine V.run T_ok 1 rfl ?_
     first | refine V.cnvN T_ok rfl rfl rfl rfl rfl rfl (V.wrap_in (by omega) (by omega)) ?_ | refine V.run T_ok 1 rfl ?_
     refine V.addN rfl rfl rfl rfl rfl (by first | omega | (simp only [List.length_take, List.length_drop, List.length_append, List.length_cons, List.length_nil, List.length_replicate, List.length_set, V.length_data, V.S_size]; omega)) (by first | omega | (simp only [List.length_take, List.length_drop, List.length_append, List.length_cons, List.length_nil, List.length_replicate, List.length_set, V.length_data, V.S_size]; omega)) ?_
     refine V.cutD T_ok FB rfl rfl sz5 rfl rfl rfl rfl (by first | omega | (simp only [List.length_take, List.length_drop, List.length_append, List.length_cons, List.length_nil, List.length_replicate, List.length_set, V.length_data, V.S_size]; omega)) (by first | omega | (simp only [List.length_take, List.length_drop, List.length_append, List.length_cons, List.length_nil, List.length_replicate, List.length_set, V.length_data, V.S_size]; omega)) (fun a125 c126 F127 => ?_)
     have hr128 : B.drop (8 + ((beN (B.take 4)).toNat : Int)).toNat = B.drop (8 + (secB B).length) := by congr 1; omega
     rw [hr128] at F127 ⊢
     clear hr128
     refine V.storeO F21 rfl rfl rfl rfl sz22 rfl rfl rfl rfl ?_
     rintro w129 G130 z132 Fs131
     clear F21
     have z133 := V.Fr.size G130
     try replace F_b := F_b.mb G130 hD_b
     first | replace FD32 := FD32.mv1 G130 (by omega) | clear FD32 | skip
     try replace FB := FB.mb G130 hD_b
     try replace F65 := F65.mb G130 hD_b
     try replace F70 := F70.mb G130 hD_b
     try replace F96 := F96.ma G130
     try replace F99 := F99.ma G130
     try replace F106 := F106.ma G130
     try replace Fk2 := Fk2.ma G130
     try replace Fk9 := Fk9.ma G130
     first | replace FL33 := FL33.mv1 G130 (by omega) | clear FL33 | skip
     try replace F127 := F127.mb G130 hD_b
     replace HG := HG.n1 G130
     clear G130
     have F21 := Fs131; clear Fs131
     simp only [V.spliceL, V.cellsL] at F21
     refine V.nil ?_
     refine V.dbN ?_
     refine V.dtN ?_
     exact ⟨rfl, _, ((by rw [List.length_drop]; omega)), HG, (by omega), F_b, FD32, FL33, ((B.drop (8 + (secB B).length))), (a125), (c126), (n + (8 + (secB B).length)), (a104), (c105), ((acc ++ ([(secB B)] : List (List UInt8)))), rfl, ((by rw [List.length_drop]; omega)), ((by rw [hp0, scanB_some hf1]; simp [Nat.add_assoc])), ((by rw [List.length_append]; simp only [List.length_cons, List.length_nil]; omega)), ((by rw [List.length_drop]; omega)), F21, F127.re, Fk2, Fk9, F106.re, rfl, rfl⟩
 ·
  try replace h0 := V.dec h0
  try simp only [V.mk0, V.mk1, V.mk2, V.mk3] at h0
  have hf0 : firstB B = none := first_no (by omega)
  refine V.dexit ?_
  refine V.dtX ?_
  refine V.dtX ?_
  refine V.dbE ?_
  refine V.ddone0N ?_
  refine V.done rfl ?_
  refine V.iterN FL33 ?_
  rintro w134 G135
  clear FL33
  have z136 := V.Fr.size G135
  try replace F_b := F_b.mb G135 hD_b
  try replace Fk2 := Fk2.ma G135
  try replace Fk9 := Fk9.ma G135
  try replace F21 := F21.ma G135
  first | replace FD32 := FD32.mv1 G135 (by omega) | clear FD32 | skip
  try replace FB := FB.mb G135 hD_b
  try replace FRo := FRo.ma G135
  replace HG := HG.n1 G135
  clear G135
  refine V.dbN ?_
  refine V.dtN ?_
  refine V.dseq ?_
  refine V.ddrawGT 3 (V.sel []) mixed (by kernel_rfl) V.mono_nil ?_
  refine V.gloadO T_ok (fun w' h => Fk2.gr h.1) rfl rfl rfl rfl rfl rfl ?_
  refine V.gloadO T_ok (fun w' h => Fk9.gr h.1) rfl rfl rfl rfl rfl rfl ?_
  refine V.grun T_ok 1 rfl (V.sel_none rfl) ?_
  refine V.gnil ?_
  rintro w137 G138 hH139
  have z140 := V.Fr.size G138
  try replace F_b := F_b.gr G138
  try replace Fk2 := Fk2.gr G138
  try replace Fk9 := Fk9.gr G138
  try replace F21 := F21.gr G138
  try replace FD32 := FD32.gr G138
  try replace FB := FB.gr G138
  try replace FRo := FRo.gr G138
  replace HG := HG.grow G138
  clear G138
  clear hH139
  refine V.iall ?_
  refine V.run T_ok 1 rfl ?_
  refine V.nil ?_
  refine V.dtN ?_
  refine V.dret ?_
  refine V.ddone1 FD32 ?_
  rintro w141 G142
  clear FD32
  have z143 := V.Fr.size G142
  try replace F_b := F_b.mb G142 hD_b
  try replace Fk2 := Fk2.ma G142
  try replace Fk9 := Fk9.ma G142
  try replace F21 := F21.ma G142
  try replace FB := FB.mb G142 hD_b
  try replace FRo := FRo.ma G142
  replace HG := HG.n1 G142
  clear G142
  refine V.done rfl ?_
  rw [show scanB b = (acc, n) by rw [hp0, scanB_none hf0]; simp]
  exact ⟨ra, rc, (by first | rfl | simp only [List.length_set]), FRo.re, HG⟩

set_option maxHeartbeats 900000 in
set_option maxRecDepth 10000 in
theorem whole_spec {w : World}  {D_b : Nat → Prop} {c_b : Nat} {a_b : Option Addr} {b : List UInt8} (F_b : Sl V.Cod.byte w D_b a_b c_b b) (hD_b : ∀ k, D_b k → k < w.heap.size)  :
    Meets Try.prog 64 [.slice a_b b.length c_b] w fun r w' => ∃ (ra19 : Option Addr) (rc19 : Nat), r = .tuple #[.slice ra19 ((wholeB b).1).length rc19, .int .i64 ((wholeB b).2)] ∧ V.Row V.Cod.byte 5 w' V.None' w.heap.size w'.heap.size ra19 rc19 ((wholeB b).1) ∧ Gr w w' := by
 have HG := V.Fr.refl [] w
 refine V.denter (n := 16) Try.func64 rfl rfl (by decide) rfl ?_
 refine V.dseq ?_
 refine V.dregion ?_
 refine V.box rfl rfl rfl rfl ?_
 rintro k1 w3 s5 s6 G4 Fk2
 have z7 := V.Fr.size G4
 try replace F_b := F_b.gr G4
 replace HG := HG.grow G4
 clear G4
 try simp only [V.cellsL, V.spliceL] at Fk2
 refine V.alloc zero22 rfl rfl rfl ?_
 rintro k8 w10 s12 s13 G11 Fk9
 have z14 := V.Fr.size G11
 try replace F_b := F_b.gr G11
 try replace Fk2 := Fk2.gr G11
 replace HG := HG.grow G11
 clear G11
 try simp only [V.cellsL, V.spliceL] at Fk9
 refine V.alloc zero26 rfl rfl rfl ?_
 rintro k15 w17 s19 s20 G18 Fk16
 have z21 := V.Fr.size G18
 try replace F_b := F_b.gr G18
 try replace Fk2 := Fk2.gr G18
 try replace Fk9 := Fk9.gr G18
 replace HG := HG.grow G18
 clear G18
 try simp only [V.cellsL, V.spliceL] at Fk16
 refine V.nil ?_
 refine V.dtN ?_
 refine V.dseq ?_
 refine V.dseq ?_
 refine V.dregion ?_
 refine V.loadO T_ok Fk2 rfl rfl rfl rfl rfl ?_
 refine V.call (records_spec F_b) rfl rfl rfl ?_
 rintro _ w25 ⟨k22, rfl, F23, ⟨h24l, h24u⟩, G26⟩
 have z27 := V.Fr.size G26
 try replace F_b := F_b.gr G26
 try replace Fk2 := Fk2.gr G26
 try replace Fk9 := Fk9.gr G26
 try replace Fk16 := Fk16.gr G26
 replace HG := HG.grow G26
 clear G26
 refine V.nil ?_
 refine V.dtN ?_
 refine V.dblock ?_
 refine V.rangeF rfl (V.callable Try.func80 rfl (by decide)) ?_
 rintro fn36 r28 d29 l30 w31 hr32 G33 hd37 hl38 hs39 FD34 FL35
 have z40 := V.Fr.size G33
 try replace F_b := F_b.gr G33
 try replace Fk2 := Fk2.gr G33
 try replace Fk9 := Fk9.gr G33
 try replace Fk16 := Fk16.gr G33
 try replace F23 := F23.gr G33
 replace HG := HG.grow G33
 clear G33
 refine V.denterIn (n := 46) Try.func80 rfl rfl rfl ?_
 refine V.dblock ?_
 have hl63 := F_b.len63
 have FB := F_b
 refine V.dloopM (fun m e v42 => Fr [] w v42 ∧ w31.heap.size ≤ v42.heap.size ∧ Sl V.Cod.byte v42 D_b a_b c_b b ∧ Cells v42 k1 [.slice a_b b.length c_b] 22 ∧ Cells v42 k8 [.slice none 0 0] 22 ∧ Cells v42 k15 [.int .i64 0] 26 ∧ V.ObjAt v42 d29 (.deferred (some [])) ∧ V.ObjAt v42 l30 (.loop (r28 .ready none)) ∧ ∃ (B : List UInt8) (a1 : Option Addr) (c1 : Nat)  , m = B.length ∧ B.length ≤ b.length ∧ B = b ∧ Cells v42 k22 [.slice a1 B.length c1] 22 ∧ Sl V.Cod.byte v42 D_b a1 c1 B ∧ e 0 = .func (.yield l30) #[] #[] ∧ e 1 = .pointer (some ⟨k22, 0, none⟩)) ?_ ?_
 ·
  exact ⟨_, HG, (by omega), F_b, Fk2, Fk9, Fk16, FD34, FL35, (b), (a_b), (c_b), rfl, (Nat.le_refl _), (rfl), F23, F_b.re, rfl, rfl⟩
 clear HG F_b Fk2 Fk9 Fk16 FD34 FL35 F23 FB
 rintro _ e v42 ⟨HG, z43, F_b, Fk2, Fk9, Fk16, FD34, FL35, B, a1, c1, rfl, hBb, hp0, F23, FB, he0_0, he0_1⟩
 refine V.dknownC (t := 0) he0_0 ?_
 refine V.dknownC (t := 1) he0_1 ?_
 refine V.dseq ?_
 refine V.dseq ?_
 refine V.dregion ?_
 refine V.loadO T_ok F23 rfl rfl rfl rfl rfl ?_
 refine V.run T_ok 2 rfl ?_
 refine V.nil ?_
 refine V.dtN ?_
 refine V.dcondT rfl (fun h0 => ?_) (fun h0 => ?_)
 ·
  try replace h0 := V.dec h0
  try simp only [V.mk0, V.mk1, V.mk2, V.mk3] at h0
  refine V.dskip ?_
  refine V.dtN ?_
  refine V.dblock ?_
  refine V.dseq ?_
  refine V.dregion ?_
  refine V.loadO T_ok F23 rfl rfl rfl rfl rfl ?_
  refine V.call (number4_spec FB (by first | omega | (simp only [List.length_take, List.length_drop, List.length_append, List.length_cons, List.length_nil, List.length_replicate, List.length_set, V.length_data, V.S_size]; omega))) rfl rfl rfl ?_
  rintro _ v42_ ⟨rfl, rfl⟩
  refine V.run T_ok 1 rfl ?_
  refine V.nil ?_
  refine V.dtN ?_
  refine V.dseq ?_
  refine V.dseq ?_
  refine V.dregion ?_
  refine V.run T_ok 3 rfl ?_
  refine V.orG T_ok 2 2 12 rfl rfl rfl rfl rfl rfl rfl rfl ?_
  refine V.run T_ok 1 rfl ?_
  refine V.split (j := 6) (t := 16) rfl rfl (fun g2_6 => ?_) (fun g2_6 => ?_)
  ·
   try replace g2_6 := V.dec g2_6
   try simp only [V.mk0, V.mk1, V.mk2, V.mk3] at g2_6
   have hf0 : firstB B = none := first_no (by omega)
   refine V.run T_ok 7 rfl ?_
   refine V.nil ?_
   refine V.dtN ?_
   refine V.dcondY rfl rfl ?_
   refine V.dret ?_
   refine V.dtR ?_
   refine V.dbR ?_
   refine V.dtR ?_
   refine V.dbR ?_
   refine V.ddone0 ?_
   refine V.done rfl ?_
   refine V.iterN FL35 ?_
   rintro w45 G46
   clear FL35
   have z47 := V.Fr.size G46
   try replace F_b := F_b.mb G46 hD_b
   try replace Fk2 := Fk2.ma G46
   try replace Fk9 := Fk9.ma G46
   try replace Fk16 := Fk16.ma G46
   try replace F23 := F23.ma G46
   first | replace FD34 := FD34.mv1 G46 (by omega) | clear FD34 | skip
   try replace FB := FB.mb G46 hD_b
   replace HG := HG.n1 G46
   clear G46
   refine V.dbN ?_
   refine V.dtN ?_
   refine V.dseq ?_
   refine V.dregion ?_
   refine V.storeO Fk9 rfl rfl rfl rfl sz22 rfl rfl rfl rfl ?_
   rintro w48 G49 z51 Fs50
   clear Fk9
   have z52 := V.Fr.size G49
   try replace F_b := F_b.mb G49 hD_b
   try replace Fk2 := Fk2.ma G49
   try replace Fk16 := Fk16.ma G49
   try replace F23 := F23.ma G49
   first | replace FD34 := FD34.mv1 G49 (by omega) | clear FD34 | skip
   try replace FB := FB.mb G49 hD_b
   replace HG := HG.n1 G49
   clear G49
   have Fk9 := Fs50; clear Fs50
   simp only [V.spliceL, V.cellsL] at Fk9
   refine V.storeO Fk16 rfl rfl rfl rfl sz26 rfl rfl rfl rfl ?_
   rintro w53 G54 z56 Fs55
   clear Fk16
   have z57 := V.Fr.size G54
   try replace F_b := F_b.mb G54 hD_b
   try replace Fk2 := Fk2.ma G54
   try replace F23 := F23.ma G54
   first | replace FD34 := FD34.mv1 G54 (by omega) | clear FD34 | skip
   try replace FB := FB.mb G54 hD_b
   try replace Fk9 := Fk9.ma G54
   replace HG := HG.n1 G54
   clear G54
   have Fk16 := Fs55; clear Fs55
   simp only [V.spliceL, V.cellsL] at Fk16
   refine V.nil ?_
   refine V.dtN ?_
   refine V.dret ?_
   refine V.ddone1 FD34 ?_
   rintro w58 G59
   clear FD34
   have z60 := V.Fr.size G59
   try replace F_b := F_b.mb G59 hD_b
   try replace Fk2 := Fk2.ma G59
   try replace F23 := F23.ma G59
   try replace FB := FB.mb G59 hD_b
   try replace Fk9 := Fk9.ma G59
   try replace Fk16 := Fk16.ma G59
   replace HG := HG.n1 G59
   clear G59
   refine V.done2 rfl (V.resV_cell T_ok Fk9 rfl rfl) (V.resV_cell T_ok Fk16 rfl rfl) ?_
   have hbl : B.length = b.length := by rw [hp0]
   rw [show wholeB b = ([], 21) by rw [← hp0]; first | exact whole_none hf0 | exact whole_long hf1 (by omega)]
   exact ⟨none, 0, (by first | rfl | simp only [List.length_set]), V.Row.nil, HG⟩
  ·
   try replace g2_6 := V.dec g2_6
   try simp only [V.mk0, V.mk1, V.mk2, V.mk3] at g2_6
   refine V.run T_ok 1 rfl ?_
   refine V.yes rfl rfl rfl ?_
   first | refine V.cnvN T_ok rfl rfl rfl rfl rfl rfl (V.wrap_in (by omega) (by omega)) ?_ | refine V.run T_ok 1 rfl ?_
   refine V.yes rfl rfl rfl ?_
   refine V.loadO T_ok F23 rfl rfl rfl rfl rfl ?_
   refine V.run T_ok 1 rfl ?_
   refine V.yes rfl rfl rfl ?_
   refine V.subN rfl rfl rfl rfl rfl (by first | omega | (simp only [List.length_take, List.length_drop, List.length_append, List.length_cons, List.length_nil, List.length_replicate, List.length_set, V.length_data, V.S_size]; omega)) (by first | omega | (simp only [List.length_take, List.length_drop, List.length_append, List.length_cons, List.length_nil, List.length_replicate, List.length_set, V.length_data, V.S_size]; omega)) ?_
   refine V.run T_ok 2 rfl ?_
   refine V.nil ?_
   refine V.dtN ?_
   refine V.dcondT rfl (fun h2 => ?_) (fun h2 => ?_)
   ·
    try replace h2 := V.dec h2
    try simp only [V.mk0, V.mk1, V.mk2, V.mk3] at h2
    have hf0 : firstB B = none := first_no (by omega)
    refine V.dret ?_
    refine V.dtR ?_
    refine V.dbR ?_
    refine V.dtR ?_
    refine V.dbR ?_
    refine V.ddone0 ?_
    refine V.done rfl ?_
    refine V.iterN FL35 ?_
    rintro w61 G62
    clear FL35
    have z63 := V.Fr.size G62
    try replace F_b := F_b.mb G62 hD_b
    try replace Fk2 := Fk2.ma G62
    try replace Fk9 := Fk9.ma G62
    try replace Fk16 := Fk16.ma G62
    try replace F23 := F23.ma G62
    first | replace FD34 := FD34.mv1 G62 (by omega) | clear FD34 | skip
    try replace FB := FB.mb G62 hD_b
    replace HG := HG.n1 G62
    clear G62
    refine V.dbN ?_
    refine V.dtN ?_
    refine V.dseq ?_
    refine V.dregion ?_
    refine V.storeO Fk9 rfl rfl rfl rfl sz22 rfl rfl rfl rfl ?_
    rintro w64 G65 z67 Fs66
    clear Fk9
    have z68 := V.Fr.size G65
    try replace F_b := F_b.mb G65 hD_b
    try replace Fk2 := Fk2.ma G65
    try replace Fk16 := Fk16.ma G65
    try replace F23 := F23.ma G65
    first | replace FD34 := FD34.mv1 G65 (by omega) | clear FD34 | skip
    try replace FB := FB.mb G65 hD_b
    replace HG := HG.n1 G65
    clear G65
    have Fk9 := Fs66; clear Fs66
    simp only [V.spliceL, V.cellsL] at Fk9
    refine V.storeO Fk16 rfl rfl rfl rfl sz26 rfl rfl rfl rfl ?_
    rintro w69 G70 z72 Fs71
    clear Fk16
    have z73 := V.Fr.size G70
    try replace F_b := F_b.mb G70 hD_b
    try replace Fk2 := Fk2.ma G70
    try replace F23 := F23.ma G70
    first | replace FD34 := FD34.mv1 G70 (by omega) | clear FD34 | skip
    try replace FB := FB.mb G70 hD_b
    try replace Fk9 := Fk9.ma G70
    replace HG := HG.n1 G70
    clear G70
    have Fk16 := Fs71; clear Fs71
    simp only [V.spliceL, V.cellsL] at Fk16
    refine V.nil ?_
    refine V.dtN ?_
    refine V.dret ?_
    refine V.ddone1 FD34 ?_
    rintro w74 G75
    clear FD34
    have z76 := V.Fr.size G75
    try replace F_b := F_b.mb G75 hD_b
    try replace Fk2 := Fk2.ma G75
    try replace F23 := F23.ma G75
    try replace FB := FB.mb G75 hD_b
    try replace Fk9 := Fk9.ma G75
    try replace Fk16 := Fk16.ma G75
    replace HG := HG.n1 G75
    clear G75
    refine V.done2 rfl (V.resV_cell T_ok Fk9 rfl rfl) (V.resV_cell T_ok Fk16 rfl rfl) ?_
    have hbl : B.length = b.length := by rw [hp0]
    rw [show wholeB b = ([], 21) by rw [← hp0]; first | exact whole_none hf0 | exact whole_long hf1 (by omega)]
    exact ⟨none, 0, (by first | rfl | simp only [List.length_set]), V.Row.nil, HG⟩
   ·
    try replace h2 := V.dec h2
    try simp only [V.mk0, V.mk1, V.mk2, V.mk3] at h2
    refine V.dskip ?_
    refine V.dtN ?_
    refine V.dseq ?_
    refine V.dregion ?_
    refine V.loadO T_ok F23 rfl rfl rfl rfl rfl ?_
    refine V.run T_ok 1 rfl ?_
    first | refine V.cnvN T_ok rfl rfl rfl rfl rfl rfl (V.wrap_in (by omega) (by omega)) ?_ | refine V.run T_ok 1 rfl ?_
    refine V.addN rfl rfl rfl rfl rfl (by first | omega | (simp only [List.length_take, List.length_drop, List.length_append, List.length_cons, List.length_nil, List.length_replicate, List.length_set, V.length_data, V.S_size]; omega)) (by first | omega | (simp only [List.length_take, List.length_drop, List.length_append, List.length_cons, List.length_nil, List.length_replicate, List.length_set, V.length_data, V.S_size]; omega)) ?_
    refine V.cut T_ok FB rfl rfl sz5 rfl rfl rfl rfl rfl rfl rfl (by first | omega | (simp only [List.length_take, List.length_drop, List.length_append, List.length_cons, List.length_nil, List.length_replicate, List.length_set, V.length_data, V.S_size]; omega)) (by first | omega | (simp only [List.length_take, List.length_drop, List.length_append, List.length_cons, List.length_nil, List.length_replicate, List.length_set, V.length_data, V.S_size]; omega)) (by first | omega | (simp only [List.length_take, List.length_drop, List.length_append, List.length_cons, List.length_nil, List.length_replicate, List.length_set, V.length_data, V.S_size]; omega)) (fun a77 c78 F79 _ => ?_)
    have hr80 : (B.drop ((8 : Int)).toNat).take ((8 + ((beN (B.take 4)).toNat : Int)) - (8 : Int)).toNat = secB B := secB_at B
    rw [hr80] at F79 ⊢
    clear hr80
    have hrl := secB_len (b := B) (by omega)
    refine V.run T_ok 1 rfl ?_
    refine V.nil ?_
    refine V.dtN ?_
    refine V.dseq ?_
    refine V.dseq ?_
    refine V.ddrawGT 9 (V.sel [(1, (fun v wz => v = .int .u32 ((sumB (secB B)).toNat : Int))), (4, (fun v wz => v = .int .u32 ((beN ((B.drop ((4 : Int)).toNat).take 4)).toNat : Int)))]) mixed (by kernel_rfl) (V.mono_cons V.eqV_mono (V.mono_cons V.eqV_mono V.mono_nil)) ?_
    refine V.grun T_ok 1 rfl (V.sel_none rfl) ?_
    refine V.gcall (fun w' h => (sum_spec (F79.gr h.1)).mono (by rintro v w'' ⟨rfl, rfl⟩; exact ⟨rfl, V.Fr.refl _ _⟩)) rfl rfl rfl rfl ?_
    rintro _ w81 - - rfl
    refine V.gloadO T_ok (fun w' h => F23.gr h.1) rfl rfl rfl rfl rfl rfl ?_
    refine V.gcutD T_ok FB rfl rfl sz5 rfl rfl rfl rfl (by first | omega | (simp only [List.length_take, List.length_drop, List.length_append, List.length_cons, List.length_nil, List.length_replicate, List.length_set, V.length_data, V.S_size]; omega)) (by first | omega | (simp only [List.length_take, List.length_drop, List.length_append, List.length_cons, List.length_nil, List.length_replicate, List.length_set, V.length_data, V.S_size]; omega)) (fun a82 c83 F84 => ?_)
    refine V.gcall (fun w' h => (number4_spec (F84.gr h.1) (by first | omega | (simp only [List.length_take, List.length_drop, List.length_append, List.length_cons, List.length_nil, List.length_replicate, List.length_set, V.length_data, V.S_size]; omega))).mono (by rintro v w'' ⟨rfl, rfl⟩; exact ⟨rfl, V.Fr.refl _ _⟩)) rfl rfl rfl rfl ?_
    rintro _ w85 - - rfl
    refine V.grun T_ok 2 rfl (V.sel_none rfl) ?_
    refine V.gsplit (j := 6) (t := 35) rfl rfl (fun g4_6 => ?_) (fun g4_6 => ?_)
    ·
     try replace g4_6 := V.dec g4_6
     try simp only [V.mk0, V.mk1, V.mk2, V.mk3] at g4_6
     have hf0 : firstB B = none := first_no (fun h => g4_6 (bvI.2 (by simpa using h.2.2.2.2)))
     refine V.grun T_ok 2 rfl (V.sel_none rfl) ?_
     refine V.gnil ?_
     rintro w86 G87 hH88
     have z89 := V.Fr.size G87
     try replace F_b := F_b.gr G87
     try replace Fk2 := Fk2.gr G87
     try replace Fk9 := Fk9.gr G87
     try replace Fk16 := Fk16.gr G87
     try replace F23 := F23.gr G87
     try replace FD34 := FD34.gr G87
     try replace FL35 := FL35.gr G87
     try replace FB := FB.gr G87
     try replace F79 := F79.gr G87
     try replace F84 := F84.gr G87
     replace HG := HG.grow G87
     clear G87
     clear hH88
     refine V.icut 0 ?_
     refine V.nil ?_
     refine V.icutN ?_
     refine V.iall ?_
     refine V.run T_ok 3 rfl ?_
     refine V.nil ?_
     refine V.dtN ?_
     refine V.dcondY rfl rfl ?_
     refine V.dret ?_
     refine V.dtR ?_
     refine V.dbR ?_
     refine V.dtR ?_
     refine V.dbR ?_
     refine V.ddone0 ?_
     refine V.done rfl ?_
     refine V.iterN FL35 ?_
     rintro w90 G91
     clear FL35
     have z92 := V.Fr.size G91
     try replace F_b := F_b.mb G91 hD_b
     try replace Fk2 := Fk2.ma G91
     try replace Fk9 := Fk9.ma G91
     try replace Fk16 := Fk16.ma G91
     try replace F23 := F23.ma G91
     first | replace FD34 := FD34.mv1 G91 (by omega) | clear FD34 | skip
     try replace FB := FB.mb G91 hD_b
     try replace F79 := F79.mb G91 hD_b
     try replace F84 := F84.mb G91 hD_b
     replace HG := HG.n1 G91
     clear G91
     refine V.dbN ?_
     refine V.dtN ?_
     refine V.dseq ?_
     refine V.dregion ?_
     refine V.storeO Fk9 rfl rfl rfl rfl sz22 rfl rfl rfl rfl ?_
     rintro w93 G94 z96 Fs95
     clear Fk9
     have z97 := V.Fr.size G94
     try replace F_b := F_b.mb G94 hD_b
     try replace Fk2 := Fk2.ma G94
     try replace Fk16 := Fk16.ma G94
     try replace F23 := F23.ma G94
     first | replace FD34 := FD34.mv1 G94 (by omega) | clear FD34 | skip
     try replace FB := FB.mb G94 hD_b
     try replace F79 := F79.mb G94 hD_b
     try replace F84 := F84.mb G94 hD_b
     replace HG := HG.n1 G94
     clear G94
     have Fk9 := Fs95; clear Fs95
     simp only [V.spliceL, V.cellsL] at Fk9
     refine V.storeO Fk16 rfl rfl rfl rfl sz26 rfl rfl rfl rfl ?_
     rintro w98 G99 z101 Fs100
     clear Fk16
     have z102 := V.Fr.size G99
     try replace F_b := F_b.mb G99 hD_b
     try replace Fk2 := Fk2.ma G99
     try replace F23 := F23.ma G99
     first | replace FD34 := FD34.mv1 G99 (by omega) | clear FD34 | skip
     try replace FB := FB.mb G99 hD_b
     try replace F79 := F79.mb G99 hD_b
     try replace F84 := F84.mb G99 hD_b
     try replace Fk9 := Fk9.ma G99
     replace HG := HG.n1 G99
     clear G99
     have Fk16 := Fs100; clear Fs100
     simp only [V.spliceL, V.cellsL] at Fk16
     refine V.nil ?_
     refine V.dtN ?_
     refine V.dret ?_
     refine V.ddone1 FD34 ?_
     rintro w103 G104
     clear FD34
     have z105 := V.Fr.size G104
     try replace F_b := F_b.mb G104 hD_b
     try replace Fk2 := Fk2.ma G104
     try replace F23 := F23.ma G104
     try replace FB := FB.mb G104 hD_b
     try replace F79 := F79.mb G104 hD_b
     try replace F84 := F84.mb G104 hD_b
     try replace Fk9 := Fk9.ma G104
     try replace Fk16 := Fk16.ma G104
     replace HG := HG.n1 G104
     clear G104
     refine V.done2 rfl (V.resV_cell T_ok Fk9 rfl rfl) (V.resV_cell T_ok Fk16 rfl rfl) ?_
     have hbl : B.length = b.length := by rw [hp0]
     rw [show wholeB b = ([], 21) by rw [← hp0]; first | exact whole_none hf0 | exact whole_long hf1 (by omega)]
     exact ⟨none, 0, (by first | rfl | simp only [List.length_set]), V.Row.nil, HG⟩
    ·
     try replace g4_6 := V.dec g4_6
     try simp only [V.mk0, V.mk1, V.mk2, V.mk3] at g4_6
     have hf1 : firstB B = some (secB B) := first_yes ⟨by omega, by omega, by omega, by omega, by simpa using bvI.1 g4_6⟩
     refine V.grun T_ok 2 rfl (V.sel_none rfl) ?_
     refine V.gnil ?_
     rintro w106 G107 hH108
     have z109 := V.Fr.size G107
     try replace F_b := F_b.gr G107
     try replace Fk2 := Fk2.gr G107
     try replace Fk9 := Fk9.gr G107
     try replace Fk16 := Fk16.gr G107
     try replace F23 := F23.gr G107
     try replace FD34 := FD34.gr G107
     try replace FL35 := FL35.gr G107
     try replace FB := FB.gr G107
     try replace F79 := F79.gr G107
     try replace F84 := F84.gr G107
     replace HG := HG.grow G107
     clear G107
     clear hH108
     refine V.icut 0 ?_
     refine V.nil ?_
     refine V.icutN ?_
     refine V.iyes rfl rfl rfl rfl ?_
     refine V.iyield rfl rfl rfl rfl hr32 FL35 rfl ?_
     refine V.dregion ?_
     refine V.run T_ok 1 rfl ?_
     refine V.nil ?_
     refine V.beginN FL35 ?_
     rintro w110 G111 Fn112
     clear FL35
     have z113 := V.Fr.size G111
     try replace F_b := F_b.mb G111 hD_b
     try replace Fk2 := Fk2.ma G111
     try replace Fk9 := Fk9.ma G111
     try replace Fk16 := Fk16.ma G111
     try replace F23 := F23.ma G111
     first | replace FD34 := FD34.mv1 G111 (by omega) | clear FD34 | skip
     try replace FB := FB.mb G111 hD_b
     try replace F79 := F79.mb G111 hD_b
     try replace F84 := F84.mb G111 hD_b
     replace HG := HG.n1 G111
     clear G111
     have FL35 := Fn112; clear Fn112
     refine V.dblock ?_
     refine V.dseq ?_
     refine V.dseq ?_
     refine V.dregion ?_
     refine V.run T_ok 2 rfl ?_
     refine V.addN rfl rfl rfl rfl rfl (by first | omega | (simp only [List.length_take, List.length_drop, List.length_append, List.length_cons, List.length_nil, List.length_replicate, List.length_set, V.length_data, V.S_size]; omega)) (by first | omega | (simp only [List.length_take, List.length_drop, List.length_append, List.length_cons, List.length_nil, List.length_replicate, List.length_set, V.length_data, V.S_size]; omega)) ?_
     refine V.loadO T_ok Fk2 rfl rfl rfl rfl rfl ?_
     refine V.run T_ok 2 rfl ?_
     refine V.nil ?_
     refine V.dtN ?_
     refine V.dcondT rfl (fun h3 => ?_) (fun h3 => ?_)
     ·
      try replace h3 := V.dec h3
      try simp only [V.mk0, V.mk1, V.mk2, V.mk3] at h3
      refine V.dexit ?_
      refine V.dtX ?_
      refine V.dbX rfl ?_
      refine V.roundX FL35 ?_
      rintro w114 G115 Fn116
      clear FL35
      have z117 := V.Fr.size G115
      try replace F_b := F_b.mb G115 hD_b
      try replace Fk2 := Fk2.ma G115
      try replace Fk9 := Fk9.ma G115
      try replace Fk16 := Fk16.ma G115
      try replace F23 := F23.ma G115
      first | replace FD34 := FD34.mv1 G115 (by omega) | clear FD34 | skip
      try replace FB := FB.mb G115 hD_b
      try replace F79 := F79.mb G115 hD_b
      try replace F84 := F84.mb G115 hD_b
      replace HG := HG.n1 G115
      clear G115
      have FL35 := Fn116; clear Fn116
      refine V.iall ?_
      refine V.run T_ok 2 rfl ?_
      refine V.nil ?_
      refine V.dtN ?_
      refine V.dcondY rfl rfl ?_
      refine V.dret ?_
      refine V.dtR ?_
      refine V.dbR ?_
      refine V.dtR ?_
      refine V.dbR ?_
      refine V.ddone0 ?_
      refine V.done rfl ?_
      refine V.iterX FL35 ?_
      rintro w118 G119
      clear FL35
      have z120 := V.Fr.size G119
      try replace F_b := F_b.mb G119 hD_b
      try replace Fk2 := Fk2.ma G119
      try replace Fk9 := Fk9.ma G119
      try replace Fk16 := Fk16.ma G119
      try replace F23 := F23.ma G119
      first | replace FD34 := FD34.mv1 G119 (by omega) | clear FD34 | skip
      try replace FB := FB.mb G119 hD_b
      try replace F79 := F79.mb G119 hD_b
      try replace F84 := F84.mb G119 hD_b
      replace HG := HG.n1 G119
      clear G119
      refine V.dbE ?_
      refine V.dtN ?_
      refine V.dseq ?_
      refine V.dregion ?_
      refine V.storeO Fk9 rfl rfl rfl rfl sz22 rfl rfl rfl rfl ?_
      rintro w121 G122 z124 Fs123
      clear Fk9
      have z125 := V.Fr.size G122
      try replace F_b := F_b.mb G122 hD_b
      try replace Fk2 := Fk2.ma G122
      try replace Fk16 := Fk16.ma G122
      try replace F23 := F23.ma G122
      first | replace FD34 := FD34.mv1 G122 (by omega) | clear FD34 | skip
      try replace FB := FB.mb G122 hD_b
      try replace F79 := F79.mb G122 hD_b
      try replace F84 := F84.mb G122 hD_b
      replace HG := HG.n1 G122
      clear G122
      have Fk9 := Fs123; clear Fs123
      simp only [V.spliceL, V.cellsL] at Fk9
      refine V.storeO Fk16 rfl rfl rfl rfl sz26 rfl rfl rfl rfl ?_
      rintro w126 G127 z129 Fs128
      clear Fk16
      have z130 := V.Fr.size G127
      try replace F_b := F_b.mb G127 hD_b
      try replace Fk2 := Fk2.ma G127
      try replace F23 := F23.ma G127
      first | replace FD34 := FD34.mv1 G127 (by omega) | clear FD34 | skip
      try replace FB := FB.mb G127 hD_b
      try replace F79 := F79.mb G127 hD_b
      try replace F84 := F84.mb G127 hD_b
      try replace Fk9 := Fk9.ma G127
      replace HG := HG.n1 G127
      clear G127
      have Fk16 := Fs128; clear Fs128
      simp only [V.spliceL, V.cellsL] at Fk16
      refine V.nil ?_
      refine V.dtN ?_
      refine V.dret ?_
      refine V.ddone1 FD34 ?_
      rintro w131 G132
      clear FD34
      have z133 := V.Fr.size G132
      try replace F_b := F_b.mb G132 hD_b
      try replace Fk2 := Fk2.ma G132
      try replace F23 := F23.ma G132
      try replace FB := FB.mb G132 hD_b
      try replace F79 := F79.mb G132 hD_b
      try replace F84 := F84.mb G132 hD_b
      try replace Fk9 := Fk9.ma G132
      try replace Fk16 := Fk16.ma G132
      replace HG := HG.n1 G132
      clear G132
      refine V.done2 rfl (V.resV_cell T_ok Fk9 rfl rfl) (V.resV_cell T_ok Fk16 rfl rfl) ?_
      have hbl : B.length = b.length := by rw [hp0]
      rw [show wholeB b = ([], 21) by rw [← hp0]; first | exact whole_none hf0 | exact whole_long hf1 (by omega)]
      exact ⟨none, 0, (by first | rfl | simp only [List.length_set]), V.Row.nil, HG⟩
     ·
      try replace h3 := V.dec h3
      try simp only [V.mk0, V.mk1, V.mk2, V.mk3] at h3
      refine V.dskip ?_
      refine V.dtN ?_
      refine V.dseq ?_
      refine V.dregion ?_
      refine V.run T_ok 1 rfl ?_
      refine V.call (clone_spec F79 (by first | omega | (simp only [List.length_take, List.length_drop, List.length_append, List.length_cons, List.length_nil, List.length_replicate, List.length_set, V.length_data, V.S_size]; omega))) rfl rfl rfl ?_
      rintro _ w137 ⟨a134, c135, rfl, F136, G138⟩
      have z139 := V.Fr.size G138
      try replace F_b := F_b.gr G138
      try replace Fk2 := Fk2.gr G138
      try replace Fk9 := Fk9.gr G138
      try replace Fk16 := Fk16.gr G138
      try replace F23 := F23.gr G138
      try replace FD34 := FD34.gr G138
      try replace FB := FB.gr G138
      try replace F79 := F79.gr G138
      try replace F84 := F84.gr G138
      try replace FL35 := FL35.gr G138
      replace HG := HG.grow G138
      clear G138
      refine V.storeO Fk9 rfl rfl rfl rfl sz22 rfl rfl rfl rfl ?_
      rintro w140 G141 z143 Fs142
      clear Fk9
      have z144 := V.Fr.size G141
      try replace F_b := F_b.mb G141 hD_b
      try replace Fk2 := Fk2.ma G141
      try replace Fk16 := Fk16.ma G141
      try replace F23 := F23.ma G141
      first | replace FD34 := FD34.mv1 G141 (by omega) | clear FD34 | skip
      try replace FB := FB.mb G141 hD_b
      try replace F79 := F79.mb G141 hD_b
      try replace F84 := F84.mb G141 hD_b
      first | replace FL35 := FL35.mv1 G141 (by omega) | clear FL35 | skip
      try replace F136 := F136.ma G141
      replace HG := HG.n1 G141
      clear G141
      have Fk9 := Fs142; clear Fs142
      simp only [V.spliceL, V.cellsL] at Fk9
      refine V.storeO Fk16 rfl rfl rfl rfl sz26 rfl rfl rfl rfl ?_
      rintro w145 G146 z148 Fs147
      clear Fk16
      have z149 := V.Fr.size G146
      try replace F_b := F_b.mb G146 hD_b
      try replace Fk2 := Fk2.ma G146
      try replace F23 := F23.ma G146
      first | replace FD34 := FD34.mv1 G146 (by omega) | clear FD34 | skip
      try replace FB := FB.mb G146 hD_b
      try replace F79 := F79.mb G146 hD_b
      try replace F84 := F84.mb G146 hD_b
      first | replace FL35 := FL35.mv1 G146 (by omega) | clear FL35 | skip
      try replace F136 := F136.ma G146
      try replace Fk9 := Fk9.ma G146
      replace HG := HG.n1 G146
      clear G146
      have Fk16 := Fs147; clear Fs147
      simp only [V.spliceL, V.cellsL] at Fk16
      refine V.nil ?_
      refine V.dtN ?_
      refine V.dret ?_
      refine V.dbR ?_
      refine V.roundR FL35 ?_
      rintro w150 G151 Fn152
      clear FL35
      have z153 := V.Fr.size G151
      try replace F_b := F_b.mb G151 hD_b
      try replace Fk2 := Fk2.ma G151
      try replace F23 := F23.ma G151
      first | replace FD34 := FD34.mv1 G151 (by omega) | clear FD34 | skip
      try replace FB := FB.mb G151 hD_b
      try replace F79 := F79.mb G151 hD_b
      try replace F84 := F84.mb G151 hD_b
      try replace F136 := F136.ma G151
      try replace Fk9 := Fk9.ma G151
      try replace Fk16 := Fk16.ma G151
      replace HG := HG.n1 G151
      clear G151
      have FL35 := Fn152; clear Fn152
      refine V.iall ?_
      refine V.run T_ok 2 rfl ?_
      refine V.nil ?_
      refine V.dtN ?_
      refine V.dcondY rfl rfl ?_
      refine V.dret ?_
      refine V.dtR ?_
      refine V.dbR ?_
      refine V.dtR ?_
      refine V.dbR ?_
      refine V.ddone0 ?_
      refine V.done rfl ?_
      refine V.iterR FL35 ?_
      rintro w154 G155
      clear FL35
      have z156 := V.Fr.size G155
      try replace F_b := F_b.mb G155 hD_b
      try replace Fk2 := Fk2.ma G155
      try replace F23 := F23.ma G155
      first | replace FD34 := FD34.mv1 G155 (by omega) | clear FD34 | skip
      try replace FB := FB.mb G155 hD_b
      try replace F79 := F79.mb G155 hD_b
      try replace F84 := F84.mb G155 hD_b
      try replace F136 := F136.ma G155
      try replace Fk9 := Fk9.ma G155
      try replace Fk16 := Fk16.ma G155
      replace HG := HG.n1 G155
      clear G155
      refine V.dbR ?_
      refine V.dtR ?_
      refine V.ddone1 FD34 ?_
      rintro w157 G158
      clear FD34
      have z159 := V.Fr.size G158
      try replace F_b := F_b.mb G158 hD_b
      try replace Fk2 := Fk2.ma G158
      try replace F23 := F23.ma G158
      try replace FB := FB.mb G158 hD_b
      try replace F79 := F79.mb G158 hD_b
      try replace F84 := F84.mb G158 hD_b
      try replace F136 := F136.ma G158
      try replace Fk9 := Fk9.ma G158
      try replace Fk16 := Fk16.ma G158
      replace HG := HG.n1 G158
      clear G158
      refine V.done2 rfl (V.resV_cell T_ok Fk9 rfl rfl) (V.resV_cell T_ok Fk16 rfl rfl) ?_
      have hbl : B.length = b.length := by rw [hp0]
      rw [show wholeB b = (secB B, 0) by rw [← hp0]; exact whole_some hf1 (by omega)]
      exact ⟨a134, c135, (by first | rfl | simp only [List.length_set]), F136.re, HG⟩
 ·
  try replace h0 := V.dec h0
  try simp only [V.mk0, V.mk1, V.mk2, V.mk3] at h0
  have hf0 : firstB B = none := first_no (by omega)
  refine V.dexit ?_
  refine V.dtX ?_
  refine V.dtX ?_
  refine V.dbE ?_
  refine V.ddone0N ?_
  refine V.done rfl ?_
  refine V.iterN FL35 ?_
  rintro w160 G161
  clear FL35
  have z162 := V.Fr.size G161
  try replace F_b := F_b.mb G161 hD_b
  try replace Fk2 := Fk2.ma G161
  try replace Fk9 := Fk9.ma G161
  try replace Fk16 := Fk16.ma G161
  try replace F23 := F23.ma G161
  first | replace FD34 := FD34.mv1 G161 (by omega) | clear FD34 | skip
  try replace FB := FB.mb G161 hD_b
  replace HG := HG.n1 G161
  clear G161
  refine V.dbN ?_
  refine V.dtN ?_
  refine V.dseq ?_
  refine V.dregion ?_
  refine V.storeO Fk9 rfl rfl rfl rfl sz22 rfl rfl rfl rfl ?_
  rintro w163 G164 z166 Fs165
  clear Fk9
  have z167 := V.Fr.size G164
  try replace F_b := F_b.mb G164 hD_b
  try replace Fk2 := Fk2.ma G164
  try replace Fk16 := Fk16.ma G164
  try replace F23 := F23.ma G164
  first | replace FD34 := FD34.mv1 G164 (by omega) | clear FD34 | skip
  try replace FB := FB.mb G164 hD_b
  replace HG := HG.n1 G164
  clear G164
  have Fk9 := Fs165; clear Fs165
  simp only [V.spliceL, V.cellsL] at Fk9
  refine V.storeO Fk16 rfl rfl rfl rfl sz26 rfl rfl rfl rfl ?_
  rintro w168 G169 z171 Fs170
  clear Fk16
  have z172 := V.Fr.size G169
  try replace F_b := F_b.mb G169 hD_b
  try replace Fk2 := Fk2.ma G169
  try replace F23 := F23.ma G169
  first | replace FD34 := FD34.mv1 G169 (by omega) | clear FD34 | skip
  try replace FB := FB.mb G169 hD_b
  try replace Fk9 := Fk9.ma G169
  replace HG := HG.n1 G169
  clear G169
  have Fk16 := Fs170; clear Fs170
  simp only [V.spliceL, V.cellsL] at Fk16
  refine V.nil ?_
  refine V.dtN ?_
  refine V.dret ?_
  refine V.ddone1 FD34 ?_
  rintro w173 G174
  clear FD34
  have z175 := V.Fr.size G174
  try replace F_b := F_b.mb G174 hD_b
  try replace Fk2 := Fk2.ma G174
  try replace F23 := F23.ma G174
  try replace FB := FB.mb G174 hD_b
  try replace Fk9 := Fk9.ma G174
  try replace Fk16 := Fk16.ma G174
  replace HG := HG.n1 G174
  clear G174
  refine V.done2 rfl (V.resV_cell T_ok Fk9 rfl rfl) (V.resV_cell T_ok Fk16 rfl rfl) ?_
  have hbl : B.length = b.length := by rw [hp0]
  rw [show wholeB b = ([], 21) by rw [← hp0]; first | exact whole_none hf0 | exact whole_long hf1 (by omega)]
  exact ⟨none, 0, (by first | rfl | simp only [List.length_set]), V.Row.nil, HG⟩

set_option maxHeartbeats 900000 in
set_option maxRecDepth 10000 in
theorem rof_spec {w : World}  {D_b : Nat → Prop} {c_b : Nat} {a_b : Option Addr} {b : List UInt8} (F_b : Sl V.Cod.byte w D_b a_b c_b b) (h4 : 4 ≤ b.length) :
    Meets Try.prog 85 [.slice a_b b.length c_b] w fun r w' => r = .int .u32 ((beN (b.take 4)).toNat : Int) ∧ Gr w w' := by
 replace F_b := F_b.flb
 have HG := V.Fr.refl [] w
 refine V.enter (n := 25) Try.func85 rfl rfl (by decide) rfl ?_
 refine V.seq ?_
 refine V.region ?_
 refine V.run T_ok 1 rfl ?_
 refine V.nil ?_
 refine V.tN ?_
 refine V.seq ?_
 refine V.drawQ mixed (by kernel_rfl) ?_
 refine V.qrun T_ok 1 rfl ?_
 refine V.qelem T_ok F_b rfl rfl sz5 rfl rfl rfl rfl (by first | omega | (simp only [List.length_take, List.length_drop, List.length_append, List.length_cons, List.length_nil, List.length_replicate, List.length_set, V.length_data, V.S_size]; omega)) (by first | omega | (simp only [List.length_take, List.length_drop, List.length_append, List.length_cons, List.length_nil, List.length_replicate, List.length_set, V.length_data, V.S_size]; omega)) ?_
 rintro b1 o2 cs3 hx4 hb5 hR8 hA6
 obtain ⟨x7, hx7⟩ : ∃ z', b[(0 : Int).toNat] = z' := ⟨_, rfl⟩
 rw [hx7] at hR8
 obtain rfl := hR8
 try simp only [Int.toNat_natCast] at hx7 hx4
 have hu9 := UInt8.toNat_lt x7
 refine V.qloadA T_ok (o0 := o2) (off := 0) hA6 rfl rfl rfl rfl rfl ?_
 first | refine V.qcnvN T_ok rfl rfl rfl rfl rfl rfl (V.wrap_u32 (by omega) (by omega)) ?_ | refine V.qrun T_ok 1 rfl ?_
 refine V.qrun T_ok 2 rfl ?_
 refine V.qelem T_ok F_b rfl rfl sz5 rfl rfl rfl rfl (by first | omega | (simp only [List.length_take, List.length_drop, List.length_append, List.length_cons, List.length_nil, List.length_replicate, List.length_set, V.length_data, V.S_size]; omega)) (by first | omega | (simp only [List.length_take, List.length_drop, List.length_append, List.length_cons, List.length_nil, List.length_replicate, List.length_set, V.length_data, V.S_size]; omega)) ?_
 rintro b10 o11 cs12 hx13 hb14 hR17 hA15
 obtain ⟨x16, hx16⟩ : ∃ z', b[(1 : Int).toNat] = z' := ⟨_, rfl⟩
 rw [hx16] at hR17
 obtain rfl := hR17
 try simp only [Int.toNat_natCast] at hx16 hx13
 have hu18 := UInt8.toNat_lt x16
 refine V.qloadA T_ok (o0 := o11) (off := 0) hA15 rfl rfl rfl rfl rfl ?_
 first | refine V.qcnvN T_ok rfl rfl rfl rfl rfl rfl (V.wrap_u32 (by omega) (by omega)) ?_ | refine V.qrun T_ok 1 rfl ?_
 refine V.qrun T_ok 3 rfl ?_
 refine V.qelem T_ok F_b rfl rfl sz5 rfl rfl rfl rfl (by first | omega | (simp only [List.length_take, List.length_drop, List.length_append, List.length_cons, List.length_nil, List.length_replicate, List.length_set, V.length_data, V.S_size]; omega)) (by first | omega | (simp only [List.length_take, List.length_drop, List.length_append, List.length_cons, List.length_nil, List.length_replicate, List.length_set, V.length_data, V.S_size]; omega)) ?_
 rintro b19 o20 cs21 hx22 hb23 hR26 hA24
 obtain ⟨x25, hx25⟩ : ∃ z', b[(2 : Int).toNat] = z' := ⟨_, rfl⟩
 rw [hx25] at hR26
 obtain rfl := hR26
 try simp only [Int.toNat_natCast] at hx25 hx22
 have hu27 := UInt8.toNat_lt x25
 refine V.qloadA T_ok (o0 := o20) (off := 0) hA24 rfl rfl rfl rfl rfl ?_
 first | refine V.qcnvN T_ok rfl rfl rfl rfl rfl rfl (V.wrap_u32 (by omega) (by omega)) ?_ | refine V.qrun T_ok 1 rfl ?_
 refine V.qrun T_ok 3 rfl ?_
 refine V.qelem T_ok F_b rfl rfl sz5 rfl rfl rfl rfl (by first | omega | (simp only [List.length_take, List.length_drop, List.length_append, List.length_cons, List.length_nil, List.length_replicate, List.length_set, V.length_data, V.S_size]; omega)) (by first | omega | (simp only [List.length_take, List.length_drop, List.length_append, List.length_cons, List.length_nil, List.length_replicate, List.length_set, V.length_data, V.S_size]; omega)) ?_
 rintro b28 o29 cs30 hx31 hb32 hR35 hA33
 obtain ⟨x34, hx34⟩ : ∃ z', b[(3 : Int).toNat] = z' := ⟨_, rfl⟩
 rw [hx34] at hR35
 obtain rfl := hR35
 try simp only [Int.toNat_natCast] at hx34 hx31
 have hu36 := UInt8.toNat_lt x34
 refine V.qloadA T_ok (o0 := o29) (off := 0) hA33 rfl rfl rfl rfl rfl ?_
 first | refine V.qcnvN T_ok rfl rfl rfl rfl rfl rfl (V.wrap_u32 (by omega) (by omega)) ?_ | refine V.qrun T_ok 1 rfl ?_
 refine V.qrun T_ok 2 rfl ?_
 refine V.qnil ?_
 rintro w37 G38
 have z39 := V.Fr.size G38
 try replace F_b := F_b.gr G38
 replace HG := HG.grow G38
 clear G38
 refine V.tN ?_
 refine V.ret ?_
 refine V.done rfl ?_
 exact ⟨congrArg (Value.int .u32) (of4 h4 hx7 hx16 hx25 hx34), HG⟩

set_option maxHeartbeats 900000 in
set_option maxRecDepth 10000 in
theorem rfirst_spec {w : World}  {D_b : Nat → Prop} {c_b : Nat} {a_b : Option Addr} {b : List UInt8} (F_b : Sl V.Cod.byte w D_b a_b c_b b) (hD_b : ∀ k, D_b k → k < w.heap.size)  :
    Meets Try.prog 70 [.slice a_b b.length c_b] w fun r w' => ∃ (ra20 : Option Addr) (rc20 : Nat), r = .tuple #[.slice ra20 ((r1B b).1).length rc20, .bool ((r1B b).2)] ∧ Sl V.Cod.byte w' (D_b) ra20 rc20 ((r1B b).1) ∧ Gr w w' := by
 have HG := V.Fr.refl [] w
 refine V.enter (n := 38) Try.func70 rfl rfl (by decide) rfl ?_
 refine V.seq ?_
 refine V.region ?_
 refine V.run T_ok 2 rfl ?_
 refine V.nil ?_
 refine V.tN ?_
 refine V.seq ?_
 refine V.seq ?_
 refine V.region ?_
 refine V.run T_ok 3 rfl ?_
 refine V.nil ?_
 refine V.tN ?_
 refine V.condT rfl (fun h1 => ?_) (fun h1 => ?_)
 ·
  try replace h1 := V.dec h1
  try simp only [V.mk0, V.mk1, V.mk2, V.mk3] at h1
  refine V.seq ?_
  refine V.region ?_
  refine V.run T_ok 2 rfl ?_
  refine V.nil ?_
  refine V.tN ?_
  refine V.ret ?_
  refine V.tR ?_
  refine V.done rfl ?_
  rw [show r1B b = ([], false) from r1_no (by omega)]
  exact ⟨none, 0, (by first | rfl | simp only [List.length_set]), (Sl.nil _ _ _ _ _ (Nat.zero_le _)), HG⟩
 ·
  try replace h1 := V.dec h1
  try simp only [V.mk0, V.mk1, V.mk2, V.mk3] at h1
  refine V.skip ?_
  refine V.tN ?_
  refine V.seq ?_
  refine V.region ?_
  refine V.run T_ok 1 rfl ?_
  refine V.cutL T_ok F_b rfl rfl sz5 rfl rfl rfl rfl (by first | omega | (simp only [List.length_take, List.length_drop, List.length_append, List.length_cons, List.length_nil, List.length_replicate, List.length_set, V.length_data, V.S_size]; omega)) (by first | omega | (simp only [List.length_take, List.length_drop, List.length_append, List.length_cons, List.length_nil, List.length_replicate, List.length_set, V.length_data, V.S_size]; omega)) (fun a1 F3 => ?_)
  have hr4 : b.take ((4 : Int)).toNat = b.take 4 := by simp
  rw [hr4] at F3 ⊢
  clear hr4
  refine V.call (rof_spec F3 (by first | omega | (simp only [List.length_take, List.length_drop, List.length_append, List.length_cons, List.length_nil, List.length_replicate, List.length_set, V.length_data, V.S_size]; omega))) rfl rfl rfl ?_
  rintro _ w5 ⟨rfl, G6⟩
  have z7 := V.Fr.size G6
  try replace F_b := F_b.gr G6
  try replace F3 := F3.gr G6
  replace HG := HG.grow G6
  clear G6
  rw [take44 b]
  refine V.run T_ok 1 rfl ?_
  refine V.nil ?_
  refine V.tN ?_
  refine V.seq ?_
  refine V.seq ?_
  refine V.region ?_
  refine V.run T_ok 3 rfl ?_
  refine V.orG T_ok 2 2 14 rfl rfl rfl rfl rfl rfl rfl rfl ?_
  refine V.run T_ok 1 rfl ?_
  refine V.orG T_ok 6 6 18 rfl rfl rfl rfl rfl rfl rfl rfl ?_
  refine V.nil ?_
  refine V.tN ?_
  refine V.condT rfl (fun h4 => ?_) (fun h4 => ?_)
  ·
   try replace h4 := V.dec h4
   try simp only [V.mk0, V.mk1, V.mk2, V.mk3] at h4
   have hl63 := F_b.len63
   have hbt := (beN (b.take 4)).isLt
   rw [V.wrap_in (x := ((beN (b.take 4)).toNat : Int)) (by omega) (by omega), V.wrap_in (x := (b.length : Int) - 8) (by omega) (by omega)] at h4
   refine V.seq ?_
   refine V.region ?_
   refine V.run T_ok 2 rfl ?_
   refine V.nil ?_
   refine V.tN ?_
   refine V.ret ?_
   refine V.tR ?_
   refine V.done rfl ?_
   rw [show r1B b = ([], false) from r1_no (by omega)]
   exact ⟨none, 0, (by first | rfl | simp only [List.length_set]), (Sl.nil _ _ _ _ _ (Nat.zero_le _)), HG⟩
  ·
   try replace h4 := V.dec h4
   try simp only [V.mk0, V.mk1, V.mk2, V.mk3] at h4
   have hl63 := F_b.len63
   have hbt := (beN (b.take 4)).isLt
   rw [V.wrap_in (x := ((beN (b.take 4)).toNat : Int)) (by omega) (by omega), V.wrap_in (x := (b.length : Int) - 8) (by omega) (by omega)] at h4
   refine V.skip ?_
   refine V.tN ?_
   refine V.seq ?_
   refine V.region ?_
   refine V.run T_ok 2 rfl ?_
   first | refine V.cnvN T_ok rfl rfl rfl rfl rfl rfl (V.wrap_in (by omega) (by omega)) ?_ | refine V.run T_ok 1 rfl ?_
   refine V.addN rfl rfl rfl rfl rfl (by first | omega | (simp only [List.length_take, List.length_drop, List.length_append, List.length_cons, List.length_nil, List.length_replicate, List.length_set, V.length_data, V.S_size]; omega)) (by first | omega | (simp only [List.length_take, List.length_drop, List.length_append, List.length_cons, List.length_nil, List.length_replicate, List.length_set, V.length_data, V.S_size]; omega)) ?_
   refine V.cut T_ok F_b rfl rfl sz5 rfl rfl rfl rfl rfl rfl rfl (by first | omega | (simp only [List.length_take, List.length_drop, List.length_append, List.length_cons, List.length_nil, List.length_replicate, List.length_set, V.length_data, V.S_size]; omega)) (by first | omega | (simp only [List.length_take, List.length_drop, List.length_append, List.length_cons, List.length_nil, List.length_replicate, List.length_set, V.length_data, V.S_size]; omega)) (by first | omega | (simp only [List.length_take, List.length_drop, List.length_append, List.length_cons, List.length_nil, List.length_replicate, List.length_set, V.length_data, V.S_size]; omega)) (fun a8 c9 F10 _ => ?_)
   have hr11 : (b.drop ((8 : Int)).toNat).take ((8 + ((beN (b.take 4)).toNat : Int)) - (8 : Int)).toNat = secB b := secB_at b
   rw [hr11] at F10 ⊢
   clear hr11
   refine V.run T_ok 1 rfl ?_
   refine V.nil ?_
   refine V.tN ?_
   refine V.seq ?_
   refine V.drawQ mixed (by kernel_rfl) ?_
   refine V.qrun T_ok 2 rfl ?_
   refine V.qcall V.clo (fun w1 g => V.Meets.gr' (rsum_spec (F10.gr g))) rfl rfl rfl ?_
   refine V.qrun T_ok 1 rfl ?_
   refine V.qcut T_ok F_b rfl rfl sz5 rfl rfl rfl rfl rfl rfl rfl (by first | omega | (simp only [List.length_take, List.length_drop, List.length_append, List.length_cons, List.length_nil, List.length_replicate, List.length_set, V.length_data, V.S_size]; omega)) (by first | omega | (simp only [List.length_take, List.length_drop, List.length_append, List.length_cons, List.length_nil, List.length_replicate, List.length_set, V.length_data, V.S_size]; omega)) (by first | omega | (simp only [List.length_take, List.length_drop, List.length_append, List.length_cons, List.length_nil, List.length_replicate, List.length_set, V.length_data, V.S_size]; omega)) (fun a12 c13 F14 _ => ?_)
   have hr15 : (b.drop ((4 : Int)).toNat).take ((8 : Int) - (4 : Int)).toNat = (b.drop 4).take 4 := sl44 b
   rw [hr15] at F14 ⊢
   clear hr15
   refine V.qcall V.clo (fun w1 g => (rof_spec (F14.gr g) (by first | omega | (simp only [List.length_take, List.length_drop, List.length_append, List.length_cons, List.length_nil, List.length_replicate, List.length_set, V.length_data, V.S_size]; omega)))) rfl rfl rfl ?_
   rw [take44 (b.drop 4)]
   refine V.qrun T_ok 3 rfl ?_
   refine V.qnil ?_
   rintro w16 G17
   have z18 := V.Fr.size G17
   try replace F_b := F_b.gr G17
   try replace F3 := F3.gr G17
   try replace F10 := F10.gr G17
   try replace F14 := F14.gr G17
   replace HG := HG.grow G17
   clear G17
   refine V.tN ?_
   refine V.ret ?_
   refine V.done rfl ?_
   rw [r1_yes (b := b) (by omega)]
   exact ⟨a8, c9, (by first | rfl | simp only [List.length_set]), F10.re, HG⟩

set_option maxHeartbeats 900000 in
set_option maxRecDepth 10000 in
theorem rwhole_spec {w : World}  {D_b : Nat → Prop} {c_b : Nat} {a_b : Option Addr} {b : List UInt8} (F_b : Sl V.Cod.byte w D_b a_b c_b b) (hD_b : ∀ k, D_b k → k < w.heap.size)  :
    Meets Try.prog 45 [.slice a_b b.length c_b] w fun r w' => ∃ (ra21 : Option Addr) (rc21 : Nat), r = .tuple #[.slice ra21 ((wholeB b).1).length rc21, .int .i64 ((wholeB b).2)] ∧ Sl V.Cod.byte w' (D_b) ra21 rc21 ((wholeB b).1) ∧ Gr w w' := by
 have HG := V.Fr.refl [] w
 refine V.enter (n := 22) Try.func45 rfl rfl (by decide) rfl ?_
 refine V.seq ?_
 refine V.region ?_
 refine V.run T_ok 2 rfl ?_
 refine V.nil ?_
 refine V.tN ?_
 refine V.seq ?_
 refine V.region ?_
 refine V.run T_ok 1 rfl ?_
 refine V.call (rfirst_spec F_b (fun k hk => by have := hD_b k hk; omega)) rfl rfl rfl ?_
 rintro _ w4 ⟨a1, c2, rfl, F3, G5⟩
 have z6 := V.Fr.size G5
 try replace F_b := F_b.gr G5
 replace HG := HG.grow G5
 clear G5
 refine V.run T_ok 5 rfl ?_
 refine V.nil ?_
 refine V.tN ?_
 refine V.seq ?_
 refine V.seq ?_
 refine V.region ?_
 refine V.run T_ok 3 rfl ?_
 refine V.orG T_ok 6 2 13 rfl rfl rfl rfl rfl rfl rfl rfl ?_
 refine V.nil ?_
 refine V.tN ?_
 refine V.condT rfl (fun h2 => ?_) (fun h2 => ?_)
 ·
  try replace h2 := V.dec h2
  try simp only [V.mk0, V.mk1, V.mk2, V.mk3] at h2
  have hl63 := F_b.len63
  have hrl := r1_len b
  rw [V.wrap_in (x := ((r1B b).1.length : Int) + 8) (by omega) (by omega)] at h2
  refine V.seq ?_
  refine V.region ?_
  refine V.run T_ok 2 rfl ?_
  refine V.nil ?_
  refine V.tN ?_
  refine V.ret ?_
  refine V.tR ?_
  refine V.done rfl ?_
  rw [show wholeB b = ([], 21) by cases hr2 : (r1B b).2 with
    | false => exact whole_none (r1_none hr2)
    | true => exact whole_long (r1_some hr2) (by rcases h2 with h2 | h2 <;> first | (rw [hr2] at h2; cases h2) | omega)]
  exact ⟨none, 0, (by first | rfl | simp only [List.length_set]), (Sl.nil _ _ _ _ _ (Nat.zero_le _)), HG⟩
 ·
  try replace h2 := V.dec h2
  try simp only [V.mk0, V.mk1, V.mk2, V.mk3] at h2
  have hl63 := F_b.len63
  have hrl := r1_len b
  rw [V.wrap_in (x := ((r1B b).1.length : Int) + 8) (by omega) (by omega)] at h2
  refine V.skip ?_
  refine V.tN ?_
  refine V.seq ?_
  refine V.region ?_
  refine V.run T_ok 3 rfl ?_
  refine V.nil ?_
  refine V.tN ?_
  refine V.ret ?_
  refine V.done rfl ?_
  rw [whole_some (b := b) (r1_some (by first | exact h2.1 | simpa using h2.1)) (by omega)]
  exact ⟨a1, c2, (by first | rfl | simp only [List.length_set]), F3.re, HG⟩

set_option maxHeartbeats 900000 in
set_option maxRecDepth 10000 in
theorem rsameL_spec {w : World}  {D_x : Nat → Prop} {c_x : Nat} {a_x : Option Addr} {x : List (List UInt8)} (F_x : Sl V.Cod.byte.sl w D_x a_x c_x x) {D_y : Nat → Prop} {c_y : Nat} {a_y : Option Addr} {y : List (List UInt8)} (F_y : Sl V.Cod.byte.sl w D_y a_y c_y y)  :
    Meets Try.prog 38 [.slice a_x x.length c_x, .slice a_y y.length c_y] w fun r w' => r = .bool (decide (x = y)) ∧ Gr w w' := by
 have HG := V.Fr.refl [] w
 refine V.enter (n := 28) Try.func38 rfl rfl (by decide) rfl ?_
 refine V.seq ?_
 refine V.region ?_
 refine V.run T_ok 1 rfl ?_
 refine V.nil ?_
 refine V.tN ?_
 refine V.seq ?_
 refine V.seq ?_
 refine V.region ?_
 refine V.run T_ok 5 rfl ?_
 refine V.nil ?_
 refine V.tN ?_
 refine V.condT rfl (fun h1 => ?_) (fun h1 => ?_)
 ·
  try replace h1 := V.dec h1
  try simp only [V.mk0, V.mk1, V.mk2, V.mk3] at h1
  refine V.seq ?_
  refine V.region ?_
  refine V.run T_ok 1 rfl ?_
  refine V.nil ?_
  refine V.tN ?_
  refine V.ret ?_
  refine V.tR ?_
  refine V.done rfl ?_
  exact ⟨congrArg Value.bool (by simp only [eq_comm (a := false), decide_eq_false_iff_not]; rintro rfl; omega), HG⟩
 ·
  try replace h1 := V.dec h1
  try simp only [V.mk0, V.mk1, V.mk2, V.mk3] at h1
  refine V.skip ?_
  refine V.tN ?_
  refine V.seq ?_
  refine V.seq ?_
  refine V.region ?_
  refine V.run T_ok 1 rfl ?_
  refine V.nil ?_
  refine V.tN ?_
  refine V.block ?_
  have hl63 := F_x.len63
  refine V.loopM (fun m e v2 => Fr [] w v2 ∧ w.heap.size ≤ v2.heap.size ∧ Sl V.Cod.byte.sl v2 D_x a_x c_x x ∧ Sl V.Cod.byte.sl v2 D_y a_y c_y y ∧ ∃ (i : Nat) , m = x.length - i ∧ i ≤ x.length ∧ (∀ j (hj : j < x.length) (hj2 : j < y.length), j < i → x[j] = y[j]) ∧ e 0 = .slice a_x x.length c_x ∧ e 1 = .slice a_y y.length c_y ∧ e 5 = .int .i64 (i : Int)) ?_ ?_
  ·
   exact ⟨_, HG, (by omega), F_x, F_y, (0), rfl, (Nat.zero_le _), (fun j hj hj2 h => absurd h (Nat.not_lt_zero _)), rfl, rfl, rfl⟩
  clear HG F_x F_y
  rintro _ e v2 ⟨HG, z3, F_x, F_y, i, rfl, hi, hno, he0_0, he0_1, he0_5⟩
  refine V.knownC (t := 0) he0_0 ?_
  refine V.knownC (t := 1) he0_1 ?_
  refine V.knownC (t := 5) he0_5 ?_
  refine V.seq ?_
  refine V.seq ?_
  refine V.region ?_
  refine V.run T_ok 4 rfl ?_
  refine V.nil ?_
  refine V.tN ?_
  refine V.condT rfl (fun h4 => ?_) (fun h4 => ?_)
  ·
   try replace h4 := V.dec h4
   try simp only [V.mk0, V.mk1, V.mk2, V.mk3] at h4
   refine V.skip ?_
   refine V.tN ?_
   refine V.seq ?_
   refine V.block ?_
   refine V.seq ?_
   refine V.drawQ mixed (by kernel_rfl) ?_
   refine V.qrun T_ok 2 rfl ?_
   refine V.qelem T_ok F_x rfl rfl sz22 rfl rfl rfl rfl (by first | omega | (simp only [List.length_take, List.length_drop, List.length_append, List.length_cons, List.length_nil, List.length_replicate, List.length_set, V.length_data, V.S_size]; omega)) (by first | omega | (simp only [List.length_take, List.length_drop, List.length_append, List.length_cons, List.length_nil, List.length_replicate, List.length_set, V.length_data, V.S_size]; omega)) ?_
   rintro b4 o5 cs6 hx7 hb8 hR14 hA9
   obtain ⟨x10, hx10⟩ : ∃ z', x[((i : Int)).toNat] = z' := ⟨_, rfl⟩
   rw [hx10] at hR14
   obtain ⟨a11, c12, rfl, F13⟩ := hR14
   try simp only [Int.toNat_natCast] at hx10 hx7
   refine V.qloadA T_ok (o0 := o5) (off := 0) hA9 rfl rfl rfl rfl rfl ?_
   refine V.qtoStr F13 Try.underlying22 Try.underlying5 Try.underlying9 rfl rfl rfl rfl ?_
   refine V.qrun T_ok 2 rfl ?_
   refine V.qelem T_ok F_y rfl rfl sz22 rfl rfl rfl rfl (by first | omega | (simp only [List.length_take, List.length_drop, List.length_append, List.length_cons, List.length_nil, List.length_replicate, List.length_set, V.length_data, V.S_size]; omega)) (by first | omega | (simp only [List.length_take, List.length_drop, List.length_append, List.length_cons, List.length_nil, List.length_replicate, List.length_set, V.length_data, V.S_size]; omega)) ?_
   rintro b15 o16 cs17 hx18 hb19 hR25 hA20
   obtain ⟨x21, hx21⟩ : ∃ z', y[((i : Int)).toNat] = z' := ⟨_, rfl⟩
   rw [hx21] at hR25
   obtain ⟨a22, c23, rfl, F24⟩ := hR25
   try simp only [Int.toNat_natCast] at hx21 hx18
   refine V.qloadA T_ok (o0 := o16) (off := 0) hA20 rfl rfl rfl rfl rfl ?_
   refine V.qtoStr F24 Try.underlying22 Try.underlying5 Try.underlying9 rfl rfl rfl rfl ?_
   refine V.qrun T_ok 1 rfl ?_
   refine V.qnil ?_
   rintro w26 G27
   have z28 := V.Fr.size G27
   try replace F_x := F_x.gr G27
   try replace F_y := F_y.gr G27
   try replace F13 := F13.gr G27
   try replace F24 := F24.gr G27
   replace HG := HG.grow G27
   clear G27
   refine V.tN ?_
   refine V.condT rfl (fun h6 => ?_) (fun h6 => ?_)
   ·
    try replace h6 := V.dec h6
    try simp only [V.mk0, V.mk1, V.mk2, V.mk3] at h6
    refine V.seq ?_
    refine V.region ?_
    refine V.run T_ok 1 rfl ?_
    refine V.nil ?_
    refine V.tN ?_
    refine V.ret ?_
    refine V.bR ?_
    refine V.tR ?_
    refine V.tR ?_
    refine V.bR ?_
    refine V.tR ?_
    refine V.done rfl ?_
    exact ⟨congrArg Value.bool (by simp only [eq_comm (a := false), decide_eq_false_iff_not]; rintro rfl; grind), HG⟩
   ·
    try replace h6 := V.dec h6
    try simp only [V.mk0, V.mk1, V.mk2, V.mk3] at h6
    refine V.skip ?_
    refine V.bN ?_
    refine V.tN ?_
    refine V.region ?_
    refine V.run T_ok 1 rfl ?_
    refine V.addN rfl rfl rfl rfl rfl (by first | omega | (simp only [List.length_take, List.length_drop, List.length_append, List.length_cons, List.length_nil, List.length_replicate, List.length_set, V.length_data, V.S_size]; omega)) (by first | omega | (simp only [List.length_take, List.length_drop, List.length_append, List.length_cons, List.length_nil, List.length_replicate, List.length_set, V.length_data, V.S_size]; omega)) ?_
    refine V.run T_ok 1 rfl ?_
    refine V.nil ?_
    refine V.tN ?_
    exact ⟨_, (by omega), HG, (by omega), F_x, F_y, (i + 1), rfl, (by omega), (fun j hj hj2 h => by rcases Nat.lt_or_ge j i with h2 | h2; exact hno j hj hj2 h2; obtain rfl : j = i := (by omega); grind), rfl, rfl, rfl⟩
  ·
   try replace h4 := V.dec h4
   try simp only [V.mk0, V.mk1, V.mk2, V.mk3] at h4
   refine V.exit ?_
   refine V.tX ?_
   refine V.tX ?_
   refine V.bE ?_
   refine V.tN ?_
   refine V.seq ?_
   refine V.region ?_
   refine V.run T_ok 1 rfl ?_
   refine V.nil ?_
   refine V.tN ?_
   refine V.ret ?_
   refine V.done rfl ?_
   exact ⟨congrArg Value.bool (by rw [eq_comm, decide_eq_true_eq]; exact List.ext_getElem (by omega) fun j h1 h2 => hno j h1 h2 (by omega)), HG⟩

set_option maxHeartbeats 900000 in
set_option maxRecDepth 10000 in
theorem rscan_spec {w : World}  {D_b : Nat → Prop} {c_b : Nat} {a_b : Option Addr} {b : List UInt8} (F_b : Sl V.Cod.byte w D_b a_b c_b b) (hD_b : ∀ k, D_b k → k < w.heap.size) (hl : b.length ≤ 4000000) :
    Meets Try.prog 49 [.slice a_b b.length c_b] w fun r w' => ∃ (ra22 : Option Addr) (rc22 : Nat), r = .tuple #[.slice ra22 ((scanB b).1).length rc22, .int .i64 ((scanB b).2 : Int)] ∧ V.Row V.Cod.byte.sl 22 w' D_b w.heap.size w'.heap.size ra22 rc22 ((scanB b).1) ∧ Gr w w' := by
 have HG := V.Fr.refl [] w
 refine V.enter (n := 32) Try.func49 rfl rfl (by decide) rfl ?_
 refine V.seq ?_
 refine V.region ?_
 refine V.run T_ok 2 rfl ?_
 refine V.nil ?_
 refine V.tN ?_
 refine V.seq ?_
 refine V.region ?_
 refine V.run T_ok 1 rfl ?_
 refine V.nil ?_
 refine V.tN ?_
 refine V.seq ?_
 refine V.region ?_
 refine V.run T_ok 1 rfl ?_
 refine V.nil ?_
 refine V.tN ?_
 refine V.seq ?_
 refine V.seq ?_
 refine V.region ?_
 refine V.run T_ok 1 rfl ?_
 refine V.call (rfirst_spec F_b (fun k hk => by have := hD_b k hk; omega)) rfl rfl rfl ?_
 rintro _ w4 ⟨a1, c2, rfl, F3, G5⟩
 have z6 := V.Fr.size G5
 try replace F_b := F_b.gr G5
 replace HG := HG.grow G5
 clear G5
 refine V.run T_ok 5 rfl ?_
 refine V.nil ?_
 refine V.tN ?_
 refine V.block ?_
 refine V.loopM (fun m e v8 => Fr [] w v8 ∧ w4.heap.size ≤ v8.heap.size ∧ Sl V.Cod.byte v8 D_b a_b c_b b ∧ ∃ (n : Nat) (acc : List (List UInt8)) (ra23 : Option Addr) (rc23 : Nat) (ra24 : Option Addr) (rc24 : Nat), m = b.length - n ∧ scanB b = (acc ++ (scanB (b.drop n)).1, n + (scanB (b.drop n)).2) ∧ acc.length ≤ n ∧ n ≤ b.length ∧ V.Row V.Cod.byte.sl 22 v8 D_b w4.heap.size v8.heap.size ra23 rc23 acc ∧ Sl V.Cod.byte v8 (D_b) ra24 rc24 ((r1B (b.drop n)).1) ∧ e 0 = .slice a_b b.length c_b ∧ e 4 = .slice ra23 acc.length rc23 ∧ e 5 = .int .i64 (n : Int) ∧ e 6 = .slice ra24 ((r1B (b.drop n)).1).length rc24 ∧ e 7 = .bool ((r1B (b.drop n)).2)) ?_ ?_
 ·
  exact ⟨_, HG, (by omega), F_b, (0), ([]), none, 0, a1, c2, rfl, ((by simp)), (Nat.le_refl _), (Nat.zero_le _), V.Row.nil, F3.re, rfl, rfl, rfl, rfl, rfl⟩
 try clear F3
 clear HG F_b
 rintro _ e v8 ⟨HG, z9, F_b, n, acc, ra23, rc23, ra24, rc24, rfl, hp0, hp1, hp2, rF23, rF24, he0_0, he0_4, he0_5, he0_6, he0_7⟩
 refine V.knownC (t := 0) he0_0 ?_
 refine V.knownC (t := 4) he0_4 ?_
 refine V.knownC (t := 5) he0_5 ?_
 refine V.knownC (t := 6) he0_6 ?_
 refine V.knownC (t := 7) he0_7 ?_
 refine V.seq ?_
 refine V.seq ?_
 refine V.region ?_
 refine V.run T_ok 1 rfl ?_
 refine V.nil ?_
 refine V.tN ?_
 refine V.condT rfl (fun h4 => ?_) (fun h4 => ?_)
 ·
  try replace h4 := V.dec h4
  try simp only [V.mk0, V.mk1, V.mk2, V.mk3] at h4
  have hf1 := r1_some h4
  have hfl := firstB_len hf1
  rw [List.length_drop] at hfl
  refine V.skip ?_
  refine V.tN ?_
  refine V.seq ?_
  refine V.block ?_
  refine V.seq ?_
  refine V.region ?_
  refine V.run T_ok 2 rfl ?_
  refine V.mkSlice T_ok zero22 rfl rfl sz22 rfl rfl rfl rfl rfl rfl ?_
  rintro k10 w13 s15 s16 G14 Fk11
  have z17 := V.Fr.size G14
  try replace F_b := F_b.gr G14
  try replace rF23 := rF23.gr G14
  try replace rF24 := rF24.gr G14
  replace HG := HG.grow G14
  clear G14
  have F12 : Sl V.Cod.byte.sl w13 (fun k => k = k10 ∨ D_b k) (some ⟨k10, 0, none⟩) ([(r1B (b.drop n)).1] : List (List UInt8)).length ([(r1B (b.drop n)).1] : List (List UInt8)) := V.Cells.sl Fk11 (V.reps_cons (x := ((r1B (b.drop n)).1)) ⟨_, _, rfl, rF24.mono (fun k h => .inr (h))⟩ rfl rfl) (.inl rfl) (by simp [maxLen])
  have hDu18 : ∀ k, (fun k => k = k10 ∨ D_b k) k → k < w13.heap.size := by intro k h; (try dsimp only at h); rcases h with h | h <;> first | omega | (have := h.2; omega) | (have := h.1; omega) | (have := hD_b k h; omega)
  refine V.appendR (rF23) (F12.from Try.underlying54) elT54_54 rfl rfl rfl rfl rfl (by first | omega | (simp only [List.length_take, List.length_drop, List.length_append, List.length_cons, List.length_nil, List.length_replicate, List.length_set, V.length_data, V.S_size]; omega)) (by unfold maxLen; first | omega | (simp only [List.length_take, List.length_drop, List.length_append, List.length_cons, List.length_nil, List.length_replicate, List.length_set, V.length_data, V.S_size]; omega)) (by omega) (by omega) (by first | omega | (intro k h; first | omega | (have := hD_b k h; omega))) (by first | omega | (intro k h; (try dsimp only at h); first | exact .inl h | exact .inr ⟨by have := h.1; omega, by have := h.2; omega⟩ | (rcases h with h | h <;> first | exact .inr ⟨by omega, by omega⟩ | exact .inr ⟨by have := h.1; omega, by have := h.2; omega⟩ | exact .inl h))) ?_
  rintro a19 c20 w22 G23 s24 F21
  clear rF23
  clear F12
  have z25 := Go.RowKit.Below.size G23
  first | replace F_b := V.Sl.bl F_b G23 (by first | exact (fun _ h => by have := h.2; omega) | (intro k h; have := hD_b k h; omega)) | clear F_b | skip
  first | replace rF24 := V.Sl.bl rF24 G23 (by first | exact (fun _ h => by have := h.2; omega) | (intro k h; have := hD k h; omega)) | clear rF24 | skip
  first | replace Fk11 := V.Cells.bl Fk11 G23 (by omega) | clear Fk11 | skip
  replace HG := HG.bl (Go.RowKit.Below.mono G23 (by omega))
  clear G23
  refine V.run T_ok 1 rfl ?_
  refine V.nil ?_
  refine V.tN ?_
  refine V.region ?_
  refine V.run T_ok 1 rfl ?_
  refine V.addN rfl rfl rfl rfl rfl (by first | omega | (simp only [List.length_take, List.length_drop, List.length_append, List.length_cons, List.length_nil, List.length_replicate, List.length_set, V.length_data, V.S_size]; omega)) (by first | omega | (simp only [List.length_take, List.length_drop, List.length_append, List.length_cons, List.length_nil, List.length_replicate, List.length_set, V.length_data, V.S_size]; omega)) ?_
  refine V.run T_ok 2 rfl ?_
  refine V.addN rfl rfl rfl rfl rfl (by first | omega | (simp only [List.length_take, List.length_drop, List.length_append, List.length_cons, List.length_nil, List.length_replicate, List.length_set, V.length_data, V.S_size]; omega)) (by first | omega | (simp only [List.length_take, List.length_drop, List.length_append, List.length_cons, List.length_nil, List.length_replicate, List.length_set, V.length_data, V.S_size]; omega)) ?_
  refine V.run T_ok 1 rfl ?_
  refine V.nil ?_
  refine V.bN ?_
  refine V.tN ?_
  refine V.region ?_
  refine V.run T_ok 2 rfl ?_
  refine V.cutD T_ok F_b rfl rfl sz5 rfl rfl rfl rfl (by first | omega | (simp only [List.length_take, List.length_drop, List.length_append, List.length_cons, List.length_nil, List.length_replicate, List.length_set, V.length_data, V.S_size]; omega)) (by first | omega | (simp only [List.length_take, List.length_drop, List.length_append, List.length_cons, List.length_nil, List.length_replicate, List.length_set, V.length_data, V.S_size]; omega)) (fun a26 c27 F28 => ?_)
  have hr29 : b.drop (((n : Int) + 8) + (((r1B (b.drop n)).1).length : Int)).toNat = b.drop (n + (8 + (r1B (b.drop n)).1.length)) := by congr 1; omega
  rw [hr29] at F28 ⊢
  clear hr29
  refine V.call (rfirst_spec F28 (fun k hk => by have := hD_b k hk; omega)) rfl rfl rfl ?_
  rintro _ w33 ⟨a30, c31, rfl, F32, G34⟩
  have z35 := V.Fr.size G34
  try replace F_b := F_b.gr G34
  try replace rF24 := rF24.gr G34
  try replace Fk11 := Fk11.gr G34
  try replace F21 := F21.gr G34
  try replace F28 := F28.gr G34
  replace HG := HG.grow G34
  clear G34
  refine V.run T_ok 5 rfl ?_
  refine V.nil ?_
  refine V.tN ?_
  exact ⟨_, (by omega), HG, (by omega), F_b, (n + (8 + (r1B (b.drop n)).1.length)), ((acc ++ ([(r1B (b.drop n)).1] : List (List UInt8)))), a19, c20, a30, c31, rfl, ((by rw [hp0, scanB_some hf1, List.drop_drop]; simp [Nat.add_assoc])), ((by rw [List.length_append]; simp only [List.length_cons, List.length_nil]; omega)), ((by omega)), F21.re, F32.re, rfl, rfl, (congrArg (Value.int .i64) (by omega)), rfl, rfl⟩
 ·
  try replace h4 := V.dec h4
  try simp only [V.mk0, V.mk1, V.mk2, V.mk3] at h4
  have hf0 := r1_none h4
  refine V.exit ?_
  refine V.tX ?_
  refine V.tX ?_
  refine V.bE ?_
  refine V.tN ?_
  refine V.seq ?_
  refine V.region ?_
  refine V.run T_ok 4 rfl ?_
  refine V.nil ?_
  refine V.tN ?_
  refine V.ret ?_
  refine V.done rfl ?_
  rw [show scanB b = (acc, n) by rw [hp0, scanB_none hf0]; simp]
  exact ⟨ra23, rc23, (by first | rfl | simp only [List.length_set]), rF23.re, HG⟩

end Go.Proofs.Ytnbijpijbhkcpaa
