/- Proved here: walks: what functions of this seat's program return and what they leave of memory, each as a contract. Conditions: stated at each theorem. -/
import Derived.Test.YtmmgmkklakkooaaGreatMst
namespace Go.Proofs.YtmmgmkklakkooaaGreat
set_option linter.unusedVariables false
set_option linter.unusedSimpArgs false
open Go
open V (Bytes Meets Env Sl Own Gr Fr Cells S)
/-! ### The sum: numbers of 32 bits -/
theorem bv32 (s : BitVec 32) : BitVec.ofInt 32 (s.toNat : Int) = s := by
  apply BitVec.eq_of_toNat_eq
  rw [BitVec.ofInt_natCast, BitVec.toNat_ofNat]
  exact Nat.mod_eq_of_lt s.isLt
theorem wrap32 (s : BitVec 32) : IntKind.u32.wrap (s.toNat : Int) = (s.toNat : Int) := by
  have h := s.isLt
  simp only [IntKind.wrap, IntKind.bits, IntKind.signed]
  simp; omega
theorem wrap32i (v : Int) : IntKind.u32.wrap v = ((BitVec.ofInt 32 v).toNat : Int) := by
  simp [IntKind.wrap, IntKind.bits, IntKind.signed, BitVec.toNat_ofInt]
  omega
theorem xor32 (a b : BitVec 32) : Go.bits .xor .u32 (a.toNat : Int) (b.toNat : Int) = ((a ^^^ b).toNat : Int) := by
  show IntKind.u32.wrap ((BitVec.ofInt 32 (a.toNat : Int) ^^^ BitVec.ofInt 32 (b.toNat : Int)).toNat : Int) = _
  rw [bv32, bv32, wrap32]
theorem or32 (a b : BitVec 32) : Go.bits .or .u32 (a.toNat : Int) (b.toNat : Int) = ((a ||| b).toNat : Int) := by
  show IntKind.u32.wrap ((BitVec.ofInt 32 (a.toNat : Int) ||| BitVec.ofInt 32 (b.toNat : Int)).toNat : Int) = _
  rw [bv32, bv32, wrap32]
theorem and32 (a b : BitVec 32) : Go.bits .and .u32 (a.toNat : Int) (b.toNat : Int) = ((a &&& b).toNat : Int) := by
  show IntKind.u32.wrap ((BitVec.ofInt 32 (a.toNat : Int) &&& BitVec.ofInt 32 (b.toNat : Int)).toNat : Int) = _
  rw [bv32, bv32, wrap32]
def bOf (c : UInt8) : BitVec 32 := BitVec.ofNat 32 c.toNat
theorem bOf_toNat (c : UInt8) : (bOf c).toNat = c.toNat := by
  have := c.toNat_lt
  simp only [bOf, BitVec.toNat_ofNat]; omega
theorem xor32b (s : BitVec 32) (c : UInt8) : Go.bits .xor .u32 (s.toNat : Int) (c.toNat : Int) = ((s ^^^ bOf c).toNat : Int) := by rw [← xor32, bOf_toNat]
def poly : BitVec 32 := 0xEDB88320#32
def crc1 (s : BitVec 32) : BitVec 32 := s >>> 1 ^^^ (poly * (s &&& 1#32))
def crcK : Nat → BitVec 32 → BitVec 32
  | 0, s => s
  | k + 1, s => crc1 (crcK k s)
def crcB (s : BitVec 32) (c : UInt8) : BitVec 32 := crcK 8 (s ^^^ bOf c)
def crcL (l : List UInt8) : BitVec 32 := l.foldl crcB 0xFFFFFFFF#32
def sumB (l : List UInt8) : BitVec 32 := ~~~ (crcL l)
theorem crcL_snoc (l : List UInt8) (c : UInt8) : crcL (l ++ [c]) = crcB (crcL l) c := by simp [crcL]
theorem shr32 (s : BitVec 32) : ((s.toNat : Int)).fdiv (2 ^ min (1 : Int).toNat IntKind.u32.bits) = ((s >>> 1).toNat : Int) := by
  rw [show (2 : Int) ^ min (1 : Int).toNat IntKind.u32.bits = 2 by decide, Int.fdiv_eq_ediv_of_nonneg _ (by decide)]
  simp only [BitVec.toNat_ushiftRight, Nat.shiftRight_eq_div_pow]; rfl
theorem mul32 (s : BitVec 32) : IntKind.u32.wrap (3988292384 * (s.toNat : Int)) = ((poly * s).toNat : Int) := by
  rw [wrap32i]
  have : BitVec.ofInt 32 (3988292384 * (s.toNat : Int)) = poly * s := by
    rw [BitVec.ofInt_mul, bv32]; rfl
  rw [this]
theorem crc1_go (s : BitVec 32) : Go.bits .xor .u32 (((s.toNat : Int)).fdiv (2 ^ min (1 : Int).toNat IntKind.u32.bits)) (IntKind.u32.wrap (3988292384 * Go.bits .and .u32 (s.toNat : Int) 1)) = ((crc1 s).toNat : Int) := by
  have h1 : Go.bits .and .u32 (s.toNat : Int) 1 = ((s &&& 1#32).toNat : Int) := by rw [← and32]; rfl
  rw [shr32, h1, mul32, xor32]; rfl
theorem not32 (s : BitVec 32) : Go.bits .xor .u32 IntKind.u32.max (s.toNat : Int) = ((~~~ s).toNat : Int) := by
  have h : (IntKind.u32.max : Int) = ((BitVec.allOnes 32).toNat : Int) := by decide
  rw [h, xor32, BitVec.allOnes_xor]
theorem take_snoc {α : Type} (l : List α) (i : Nat) (h : i < l.length) : l.take (i + 1) = l.take i ++ [l[i]] := by
  rw [List.take_succ_eq_append_getElem h]
/-! four bytes -/
def beN (l : List UInt8) : BitVec 32 := l.foldl (fun n c => n <<< 8 ||| bOf c) 0#32
theorem beN_snoc (l : List UInt8) (c : UInt8) : beN (l ++ [c]) = beN l <<< 8 ||| bOf c := by simp [beN]
theorem shl32 (s : BitVec 32) : IntKind.u32.wrap ((s.toNat : Int) * 2 ^ min (8 : Int).toNat IntKind.u32.bits) = ((s <<< 8).toNat : Int) := by
  rw [wrap32i]
  congr 2
  have e1 : ((s.toNat : Int) * 2 ^ min (8 : Int).toNat IntKind.u32.bits) = (((s.toNat * 256 : Nat)) : Int) := by
    rw [show (2 : Int) ^ min (8 : Int).toNat IntKind.u32.bits = 256 by decide]; simp
  rw [e1, BitVec.ofInt_natCast]
  apply BitVec.eq_of_toNat_eq
  simp only [BitVec.toNat_ofNat, BitVec.toNat_shiftLeft, Nat.shiftLeft_eq]
theorem or32b (s : BitVec 32) (c : UInt8) : Go.bits .or .u32 (s.toNat : Int) (c.toNat : Int) = ((s ||| bOf c).toNat : Int) := by rw [← or32, bOf_toNat]
theorem xor32z (s : BitVec 32) (c : UInt8) : Go.bits .xor .u32 (s.toNat : Int) (c.toNat : Int) = ((crcK 0 (s ^^^ bOf c)).toNat : Int) := xor32b s c
theorem crc1_goK (k : Nat) (s : BitVec 32) : Go.bits .xor .u32 ((((crcK k s).toNat : Int)).fdiv (2 ^ min (1 : Int).toNat IntKind.u32.bits)) (IntKind.u32.wrap (3988292384 * Go.bits .and .u32 ((crcK k s).toNat : Int) 1)) = ((crcK (k + 1) s).toNat : Int) := crc1_go _
theorem crcL_next (l : List UInt8) (i : Nat) (h : i < l.length) {x : UInt8} (hx : l[i] = x) : crcK 8 (crcL (l.take i) ^^^ bOf x) = crcL (l.take (i + 1)) := by
  rw [take_snoc l i h, crcL_snoc, hx]; rfl
theorem not32L (l : List UInt8) : Go.bits .xor .u32 IntKind.u32.max ((crcL (l.take l.length)).toNat : Int) = ((sumB l).toNat : Int) := by
  rw [List.take_length]; exact not32 _
/-! what is scanned -/
def secB (b : List UInt8) : List UInt8 := (b.drop 8).take (beN (b.take 4)).toNat
def firstB (b : List UInt8) : Option (List UInt8) :=
  if 8 < b.length ∧ (beN (b.take 4)).toNat ≠ 0 ∧ (beN (b.take 4)).toNat ≤ 65536 ∧ (beN (b.take 4)).toNat + 8 ≤ b.length ∧ sumB (secB b) = beN ((b.drop 4).take 4) then some (secB b) else none
theorem first_no {b : List UInt8} (h : ¬ (8 < b.length ∧ (beN (b.take 4)).toNat ≠ 0 ∧ (beN (b.take 4)).toNat ≤ 65536 ∧ (beN (b.take 4)).toNat + 8 ≤ b.length ∧ sumB (secB b) = beN ((b.drop 4).take 4))) : firstB b = none := by
  unfold firstB; rw [if_neg h]
theorem first_yes {b : List UInt8} (h : 8 < b.length ∧ (beN (b.take 4)).toNat ≠ 0 ∧ (beN (b.take 4)).toNat ≤ 65536 ∧ (beN (b.take 4)).toNat + 8 ≤ b.length ∧ sumB (secB b) = beN ((b.drop 4).take 4)) : firstB b = some (secB b) := by
  unfold firstB; rw [if_pos h]
theorem bvI {a b : BitVec 32} : ((a.toNat : Int) = (b.toNat : Int)) ↔ a = b := ⟨fun h => BitVec.eq_of_toNat_eq (by omega), fun h => by rw [h]⟩
theorem secB_len {b : List UInt8} (h : (beN (b.take 4)).toNat + 8 ≤ b.length) : (secB b).length = (beN (b.take 4)).toNat := by
  simp only [secB, List.length_take, List.length_drop]; omega
theorem secB_at (b : List UInt8) : (b.drop (8 : Int).toNat).take ((8 + ((beN (b.take 4)).toNat : Int)) - (8 : Int)).toNat = secB b := by
  unfold secB
  congr 1; omega
def wholeB (b : List UInt8) : List UInt8 × Int := match firstB b with
  | some x => if 8 + x.length = b.length then (x, 0) else ([], 21)
  | none => ([], 21)
def fourI (n : Int) : List UInt8 := [UInt8.ofNat (n.toNat / 16777216), UInt8.ofNat (n.toNat / 65536), UInt8.ofNat (n.toNat / 256), UInt8.ofNat n.toNat]
theorem cut8n (v : Nat) : IntKind.u8.wrap (v : Int) = (((UInt8.ofNat v).toNat : Nat) : Int) := by
  rw [V.cut8 _ (Int.natCast_nonneg v), Int.toNat_natCast]
theorem shr8 (n : Int) (h : 0 ≤ n) (k : Nat) (hk : k ≤ 32) : IntKind.u8.wrap (n.fdiv (2 ^ min (k : Int).toNat IntKind.u32.bits)) = (((UInt8.ofNat (n.toNat / 2 ^ k)).toNat : Nat) : Int) := by
  have e1 : min (k : Int).toNat IntKind.u32.bits = k := by simp [IntKind.bits]; omega
  rw [e1, Int.fdiv_eq_ediv_of_nonneg _ (by have : (0 : Int) < 2 ^ k := Int.pow_pos (by decide); omega)]
  obtain ⟨m, rfl⟩ := Int.eq_ofNat_of_zero_le h
  have e2 : ((m : Int) / 2 ^ k) = ((m / 2 ^ k : Nat) : Int) := by simp
  rw [e2, cut8n, Int.toNat_natCast]
def frmB (b : List UInt8) : List UInt8 × Int := if b.length = 0 ∨ 65536 < b.length then ([], 21) else (fourI b.length ++ fourI (sumB b).toNat ++ b, 0)
theorem fourI_len (n : Int) : (fourI n).length = 4 := rfl
theorem crcL0 (b : List UInt8) : (4294967295 : Int) = ((crcL (b.take 0)).toNat : Int) := by rw [List.take_zero]; unfold crcL; rfl
theorem beN0 (b : List UInt8) : (0 : Int) = ((beN (b.take 0)).toNat : Int) := by rw [List.take_zero]; rfl
theorem beN_go (l : List UInt8) (i : Nat) (h : i < l.length) {x : UInt8} (hx : l[i] = x) : Go.bits .or .u32 (IntKind.u32.wrap (((beN (l.take i)).toNat : Int) * 2 ^ min (8 : Int).toNat IntKind.u32.bits)) (x.toNat : Int) = ((beN (l.take (i + 1))).toNat : Int) := by
  rw [shl32, or32b, take_snoc l i h, beN_snoc, hx]
attribute [irreducible] beN secB firstB
/-! ### one bit of the sum -/
theorem and_one (q : BitVec 32) : q &&& 1#32 = if q.getLsbD 0 then 1#32 else 0#32 := by
  apply BitVec.eq_of_getLsbD_eq
  intro i hi
  rw [BitVec.getLsbD_and, BitVec.getLsbD_one]
  by_cases h : i = 0
  · subst h; cases q.getLsbD 0 <;> simp
  · cases q.getLsbD 0 <;> simp [h]
theorem crc1_lsb (q : BitVec 32) : crc1 q = if q.getLsbD 0 then q >>> 1 ^^^ poly else q >>> 1 := by
  unfold crc1
  rw [and_one]
  cases q.getLsbD 0 <;> simp
theorem shr_xor (a b : BitVec 32) (k : Nat) : (a ^^^ b) >>> k = (a >>> k) ^^^ (b >>> k) := BitVec.ushiftRight_xor_distrib a b k
def refS (s : BitVec 32) (x : UInt8) (k : Nat) : BitVec 32 := crcK k (s ^^^ bOf x) ^^^ (bOf x >>> k)
theorem refS_zero (s : BitVec 32) (x : UInt8) : refS s x 0 = s := by
  unfold refS crcK
  rw [BitVec.ushiftRight_zero, BitVec.xor_assoc, BitVec.xor_self, BitVec.xor_zero]
theorem refS_eight (s : BitVec 32) (x : UInt8) : refS s x 8 = crcK 8 (s ^^^ bOf x) := by
  have h : bOf x >>> 8 = 0#32 := by
    apply BitVec.eq_of_toNat_eq
    have := x.toNat_lt
    simp only [BitVec.toNat_ushiftRight, bOf_toNat, Nat.shiftRight_eq_div_pow, BitVec.toNat_ofNat]
    omega
  unfold refS
  rw [h, BitVec.xor_zero]
theorem refS_next (s : BitVec 32) (x : UInt8) (k : Nat) : refS s x (k + 1) = if (refS s x k).getLsbD 0 = (bOf x >>> k).getLsbD 0 then refS s x k >>> 1 else refS s x k >>> 1 ^^^ poly := by
  have h1 : crcK (k + 1) (s ^^^ bOf x) = crc1 (crcK k (s ^^^ bOf x)) := by
    show crcK (k + 1) _ = _
    rw [crcK]
  unfold refS
  rw [h1, crc1_lsb, shr_xor, ← BitVec.shiftRight_add, BitVec.getLsbD_xor]
  generalize crcK k (s ^^^ bOf x) = q
  cases q.getLsbD 0 <;> cases (bOf x >>> k).getLsbD 0 <;> simp [BitVec.xor_assoc, BitVec.xor_comm]
attribute [irreducible] refS
attribute [irreducible] crc1 crcK crcL sumB
/-! the reference's -/
def r1B (b : List UInt8) : List UInt8 × Bool :=
  if 8 < b.length ∧ (beN (b.take 4)).toNat ≠ 0 ∧ (beN (b.take 4)).toNat ≤ 65536 ∧ (beN (b.take 4)).toNat + 8 ≤ b.length then (secB b, decide (((sumB (secB b)).toNat : Int) = ((beN ((b.drop 4).take 4)).toNat : Int))) else ([], false)
theorem of4 {b : List UInt8} {x y z u : UInt8} (h : 4 ≤ b.length) (hx : b[0] = x) (hy : b[1] = y) (hz : b[2] = z) (hu : b[3] = u) :
    IntKind.u32.wrap (IntKind.u32.wrap (IntKind.u32.wrap (IntKind.u32.wrap (IntKind.u32.wrap (IntKind.u32.wrap ((x.toNat : Int) * 256) + (y.toNat : Int)) * 256) + (z.toNat : Int)) * 256) + (u.toNat : Int)) = ((beN (b.take 4)).toNat : Int) := by
  have h4 : b.take 4 = [x, y, z, u] := by
    match b, h with
    | a0 :: a1 :: a2 :: a3 :: r, _ => simp at hx hy hz hu; simp [hx, hy, hz, hu]
  have l1 := x.toNat_lt
  have l2 := y.toNat_lt
  have l3 := z.toNat_lt
  have l4 := u.toNat_lt
  have step : ∀ (n : BitVec 32) (c : UInt8), n.toNat < 16777216 → (n <<< 8 ||| bOf c).toNat = n.toNat * 256 + c.toNat := by
    intro n c hn
    have hc := c.toNat_lt
    rw [BitVec.toNat_or, BitVec.toNat_shiftLeft, bOf_toNat, Nat.shiftLeft_eq, Nat.mod_eq_of_lt (by omega), Nat.mul_comm]
    rw [← Nat.two_pow_add_eq_or_of_lt (i := 8) hc]
  rw [h4]
  have e0 : beN [x, y, z, u] = (((0#32 <<< 8 ||| bOf x) <<< 8 ||| bOf y) <<< 8 ||| bOf z) <<< 8 ||| bOf u := by unfold beN; rfl
  have e1 : (0#32 <<< 8 ||| bOf x).toNat = x.toNat := by rw [step _ _ (by decide)]; simp
  have e2 := step (0#32 <<< 8 ||| bOf x) y (by omega)
  have e3 := step ((0#32 <<< 8 ||| bOf x) <<< 8 ||| bOf y) z (by omega)
  have e4 := step (((0#32 <<< 8 ||| bOf x) <<< 8 ||| bOf y) <<< 8 ||| bOf z) u (by omega)
  rw [e0]
  rw [V.wrap_u32 (x := (x.toNat : Int) * 256) (by omega) (by omega), V.wrap_u32 (x := (x.toNat : Int) * 256 + (y.toNat : Int)) (by omega) (by omega), V.wrap_u32 (x := ((x.toNat : Int) * 256 + (y.toNat : Int)) * 256) (by omega) (by omega),
    V.wrap_u32 (x := ((x.toNat : Int) * 256 + (y.toNat : Int)) * 256 + (z.toNat : Int)) (by omega) (by omega), V.wrap_u32 (x := (((x.toNat : Int) * 256 + (y.toNat : Int)) * 256 + (z.toNat : Int)) * 256) (by omega) (by omega), V.wrap_u32 (by omega) (by omega)]
  omega
theorem whole_none {b : List UInt8} (h : firstB b = none) : wholeB b = ([], 21) := by unfold wholeB; rw [h]
theorem whole_some {b x : List UInt8} (h : firstB b = some x) (hl : 8 + x.length = b.length) : wholeB b = (x, 0) := by unfold wholeB; rw [h]; simp only; rw [if_pos hl]
theorem whole_long {b x : List UInt8} (h : firstB b = some x) (hl : ¬ 8 + x.length = b.length) : wholeB b = ([], 21) := by unfold wholeB; rw [h]; simp only; rw [if_neg hl]
attribute [irreducible] r1B
attribute [irreducible] bOf

set_option maxHeartbeats 900000 in
set_option maxRecDepth 10000 in
theorem sum_spec {w : World}  {D_b : Nat → Prop} {c_b : Nat} {a_b : Option Addr} {b : List UInt8} (F_b : Sl V.Cod.byte w D_b a_b c_b b)  :
    Meets Tryz.prog 86 [.slice a_b b.length c_b] w fun r w' => r = .int .u32 ((sumB b).toNat : Int) ∧ w = w' := by
 replace F_b := F_b.flb
 refine V.enter (n := 28) Tryz.func86 rfl rfl (by decide) rfl ?_
 refine V.sr ?_
 refine V.ru 1 ?_
 refine V.nt ?_
 refine V.sr ?_
 refine V.ru 1 ?_
 refine V.nt ?_
 refine V.seq ?_
 refine V.sr ?_
 refine V.ru 3 ?_
 refine V.nt ?_
 refine V.block ?_
 have hl63 := F_b.len63
 refine V.loopM (fun m e v2 => w = v2 ∧ ∃ (i : Nat) , m = b.length - i ∧ i ≤ b.length ∧ e 3 = .int .u32 ((crcL (b.take i)).toNat : Int) ∧ e 6 = .slice a_b b.length c_b ∧ e 7 = .int .i64 (b.length : Int) ∧ e 8 = .int .i64 (i : Int)) ?_ ?_
 ·
  exact ⟨_, rfl, (0), rfl, (Nat.zero_le _), (congrArg (Value.int .u32) (crcL0 b)), rfl, rfl, rfl⟩
 rintro _ e v2 ⟨rfl, i, rfl, hi, he0_3, he0_6, he0_7, he0_8⟩
 refine V.knownC (t := 3) he0_3 ?_
 refine V.knownC (t := 6) he0_6 ?_
 refine V.knownC (t := 7) he0_7 ?_
 refine V.knownC (t := 8) he0_8 ?_
 refine V.sr ?_
 refine V.ru 1 ?_
 refine V.nt ?_
 refine V.seq ?_
 refine V.condT rfl (fun h3 => ?_) (fun h3 => ?_)
 ·
  try replace h3 := V.dec h3
  try simp only [V.mk] at h3
  refine V.skip ?_
  refine V.tN ?_
  refine V.seq ?_
  refine V.block ?_
  refine V.sr ?_
  refine V.elem T_ok F_b rfl rfl sz5 rfl rfl rfl rfl V.lenA V.lenA ?_
  rintro b3 o4 cs5 hx6 hb7 hR10 hA8
  obtain ⟨x9, hx9⟩ : ∃ z', b[((i : Int)).toNat] = z' := ⟨_, rfl⟩
  rw [hx9] at hR10
  obtain rfl := hR10
  try simp only [Int.toNat_natCast] at hx9 hx6
  refine V.loadA T_ok (o0 := o4) (off := 0) hA8 rfl rfl rfl rfl rfl ?_
  refine V.ru 1 ?_
  refine V.nt ?_
  refine V.seq ?_
  have hc255 := UInt8.toNat_lt x9
  refine V.region ?_
  refine V.ru 2 ?_
  first | refine V.cnvN T_ok rfl rfl rfl rfl rfl rfl (V.wrap_u32 (by omega) (by omega)) ?_ | refine V.run T_ok 1 rfl ?_
  refine V.ru 2 ?_
  refine V.nt ?_
  refine V.sr ?_
  refine V.ru 1 ?_
  refine V.nt ?_
  refine V.block ?_
  refine V.loopM (fun m e v12 => w = v12 ∧ ∃ (k : Nat) , m = 8 - k ∧ k ≤ 8 ∧ e 3 = .int .u32 ((crcK k (crcL (b.take i) ^^^ bOf x9)).toNat : Int) ∧ e 6 = .slice a_b b.length c_b ∧ e 7 = .int .i64 (b.length : Int) ∧ e 8 = .int .i64 (i : Int) ∧ e 16 = .int .i64 (k : Int)) ?_ ?_
  ·
   exact ⟨_, rfl, (0), rfl, (Nat.zero_le _), (congrArg (Value.int .u32) (xor32z (crcL (b.take i)) x9)), rfl, rfl, rfl, rfl⟩
  rintro _ e v12 ⟨rfl, k, rfl, hk, he1_3, he1_6, he1_7, he1_8, he1_16⟩
  refine V.knownC (t := 3) he1_3 ?_
  refine V.knownC (t := 6) he1_6 ?_
  refine V.knownC (t := 7) he1_7 ?_
  refine V.knownC (t := 8) he1_8 ?_
  refine V.knownC (t := 16) he1_16 ?_
  refine V.sr ?_
  refine V.ru 1 ?_
  refine V.nt ?_
  refine V.seq ?_
  refine V.condT rfl (fun h7 => ?_) (fun h7 => ?_)
  ·
   try replace h7 := V.dec h7
   try simp only [V.mk] at h7
   refine V.skip ?_
   refine V.tN ?_
   refine V.seq ?_
   refine V.block ?_
   refine V.region ?_
   refine V.ru 7 ?_
   refine V.nil ?_
   refine V.bN ?_
   refine V.tN ?_
   refine V.region ?_
   refine V.addN rfl rfl rfl rfl rfl V.lenA V.lenA ?_
   refine V.ru 1 ?_
   refine V.nt ?_
   exact ⟨_, (by omega), rfl, (k + 1), rfl, (by omega), (congrArg (Value.int .u32) (crc1_goK k (crcL (b.take i) ^^^ bOf x9))), rfl, rfl, rfl, rfl⟩
  ·
   try replace h7 := V.dec h7
   try simp only [V.mk] at h7
   refine V.exit ?_
   refine V.tX ?_
   refine V.tX ?_
   refine V.bE ?_
   refine V.bN ?_
   refine V.tN ?_
   refine V.region ?_
   refine V.addN rfl rfl rfl rfl rfl V.lenA V.lenA ?_
   refine V.ru 1 ?_
   refine V.nt ?_
   have hk8 : k = 8 := by omega
   subst hk8
   have hsn := crcL_next b i (by omega) hx9
   exact ⟨_, (by omega), rfl, (i + 1), rfl, (by omega), (congrArg (fun z : BitVec 32 => Value.int .u32 (z.toNat : Int)) hsn), rfl, rfl, rfl⟩
 ·
  try replace h3 := V.dec h3
  try simp only [V.mk] at h3
  refine V.exit ?_
  refine V.tX ?_
  refine V.tX ?_
  refine V.bE ?_
  refine V.tN ?_
  refine V.sr ?_
  refine V.ru 3 ?_
  refine V.nt ?_
  refine V.ret ?_
  refine V.done rfl ?_
  have hib : i = b.length := by omega
  subst hib
  exact ⟨congrArg (Value.int .u32) (not32L b), rfl⟩

set_option maxHeartbeats 900000 in
set_option maxRecDepth 10000 in
theorem four_spec {w : World}  {n : Int} (h0 : 0 ≤ n) :
    Meets Tryz.prog 85 [.int .u32 n] w fun r w' => ∃ (ra24 : Option Addr) (rc24 : Nat), r = .slice ra24 (fourI n).length rc24 ∧ V.Row V.Cod.byte 5 w' V.None' w.heap.size w'.heap.size ra24 rc24 (fourI n) ∧ Gr w w' := by
 have HG := V.Fr.refl [] w
 refine V.enter (n := 15) Tryz.func85 rfl rfl (by decide) rfl ?_
 refine V.sr ?_
 refine V.ru 1 ?_
 refine V.nt ?_
 refine V.sr ?_
 refine V.ru 2 ?_
 refine V.ru 1 ?_
 refine V.ru 2 ?_
 refine V.ru 1 ?_
 refine V.ru 2 ?_
 refine V.ru 1 ?_
 refine V.ru 1 ?_
 refine V.ru 1 ?_
 refine V.mkSlice T_ok zero5 rfl rfl sz5 rfl rfl rfl rfl rfl rfl ?_
 rintro k1 w4 s6 s7 G5 Fk2
 have z8 := V.Fr.size G5
 have F3 := V.rowOfB (xs := ([(UInt8.ofNat (n.toNat / 16777216)), (UInt8.ofNat (n.toNat / 65536)), (UInt8.ofNat (n.toNat / 256)), (UInt8.ofNat (n.toNat))] : List UInt8)) Fk2 (V.cb_cons (shr8 n h0 24 (by decide)) (V.cb_cons (shr8 n h0 16 (by decide)) (V.cb_cons (shr8 n h0 8 (by decide)) (V.cb_cons (V.cut8 n h0) V.cb_nil)))) rfl
 clear Fk2
 refine V.ru 1 ?_
 refine V.nt ?_
 refine V.ret ?_
 refine V.done rfl ?_
 replace HG := HG.grow G5
 exact ⟨(some ⟨k1, 0, none⟩), (([(UInt8.ofNat (n.toNat / 16777216)), (UInt8.ofNat (n.toNat / 65536)), (UInt8.ofNat (n.toNat / 256)), (UInt8.ofNat (n.toNat))] : List UInt8).length), (by first | rfl | simp only [List.length_set]), F3.re, HG⟩

set_option maxHeartbeats 900000 in
set_option maxRecDepth 10000 in
theorem number4_spec {w : World}  {D_b : Nat → Prop} {c_b : Nat} {a_b : Option Addr} {b : List UInt8} (F_b : Sl V.Cod.byte w D_b a_b c_b b) (h4 : 4 ≤ b.length) :
    Meets Tryz.prog 142 [.slice a_b b.length c_b] w fun r w' => r = .int .u32 ((beN (b.take 4)).toNat : Int) ∧ w = w' := by
 replace F_b := F_b.flb
 refine V.enter (n := 20) Tryz.func142 rfl rfl (by decide) rfl ?_
 refine V.sr ?_
 refine V.ru 1 ?_
 refine V.nt ?_
 refine V.sr ?_
 refine V.ru 1 ?_
 refine V.nt ?_
 refine V.seq ?_
 refine V.sr ?_
 refine V.ru 1 ?_
 refine V.cutL T_ok F_b rfl rfl sz5 rfl rfl rfl rfl V.lenA V.lenA (fun a1 F3 => ?_)
 have hr4 : b.take ((4 : Int)).toNat = b.take 4 := by simp
 rw [hr4] at F3 ⊢
 clear hr4
 refine V.ru 2 ?_
 refine V.nt ?_
 refine V.block ?_
 have hlt4 : (b.take 4).length = 4 := by rw [List.length_take]; omega
 have hl63 := F_b.len63
 refine V.loopM (fun m e v6 => w = v6 ∧ ∃ (i : Nat) , m = (b.take 4).length - i ∧ i ≤ (b.take 4).length ∧ e 3 = .int .u32 ((beN ((b.take 4).take i)).toNat : Int) ∧ e 7 = .slice a1 (b.take 4).length c_b ∧ e 8 = .int .i64 ((b.take 4).length : Int) ∧ e 9 = .int .i64 (i : Int)) ?_ ?_
 ·
  exact ⟨_, rfl, (0), rfl, (Nat.zero_le _), (congrArg (Value.int .u32) (beN0 (b.take 4))), rfl, rfl, rfl⟩
 rintro _ e v6 ⟨rfl, i, rfl, hi, he0_3, he0_7, he0_8, he0_9⟩
 refine V.knownC (t := 3) he0_3 ?_
 refine V.knownC (t := 7) he0_7 ?_
 refine V.knownC (t := 8) he0_8 ?_
 refine V.knownC (t := 9) he0_9 ?_
 refine V.sr ?_
 refine V.ru 1 ?_
 refine V.nt ?_
 refine V.seq ?_
 refine V.condT rfl (fun h3 => ?_) (fun h3 => ?_)
 ·
  try replace h3 := V.dec h3
  try simp only [V.mk] at h3
  refine V.skip ?_
  refine V.tN ?_
  refine V.seq ?_
  refine V.block ?_
  refine V.sr ?_
  refine V.elem T_ok F3 rfl rfl sz5 rfl rfl rfl rfl V.lenA V.lenA ?_
  rintro b7 o8 cs9 hx10 hb11 hR14 hA12
  obtain ⟨x13, hx13⟩ : ∃ z', (b.take 4)[((i : Int)).toNat] = z' := ⟨_, rfl⟩
  rw [hx13] at hR14
  obtain rfl := hR14
  try simp only [Int.toNat_natCast] at hx13 hx10
  refine V.loadA T_ok (o0 := o8) (off := 0) hA12 rfl rfl rfl rfl rfl ?_
  refine V.ru 1 ?_
  refine V.nt ?_
  have hc255 := UInt8.toNat_lt x13
  refine V.region ?_
  refine V.ru 3 ?_
  first | refine V.cnvN T_ok rfl rfl rfl rfl rfl rfl (V.wrap_u32 (by omega) (by omega)) ?_ | refine V.run T_ok 1 rfl ?_
  refine V.ru 2 ?_
  refine V.nil ?_
  refine V.bN ?_
  refine V.tN ?_
  refine V.region ?_
  refine V.addN rfl rfl rfl rfl rfl V.lenA V.lenA ?_
  refine V.ru 1 ?_
  refine V.nt ?_
  exact ⟨_, (by omega), rfl, (i + 1), rfl, (by omega), (congrArg (Value.int .u32) (beN_go (b.take 4) i (by omega) hx13)), rfl, rfl, rfl⟩
 ·
  try replace h3 := V.dec h3
  try simp only [V.mk] at h3
  refine V.exit ?_
  refine V.tX ?_
  refine V.tX ?_
  refine V.bE ?_
  refine V.tN ?_
  refine V.sr ?_
  refine V.ru 2 ?_
  refine V.nt ?_
  refine V.ret ?_
  refine V.done rfl ?_
  have hib : i = (b.take 4).length := by omega
  subst hib
  exact ⟨congrArg (fun z : BitVec 32 => Value.int .u32 (z.toNat : Int)) (by rw [List.take_length]), rfl⟩

set_option maxHeartbeats 900000 in
set_option maxRecDepth 10000 in
theorem frame_spec {w : World}  {D_b : Nat → Prop} {c_b : Nat} {a_b : Option Addr} {b : List UInt8} (F_b : Sl V.Cod.byte w D_b a_b c_b b) (hD_b : ∀ k, D_b k → k < w.heap.size)  :
    Meets Tryz.prog 51 [.slice a_b b.length c_b] w fun r w' => ∃ (ra26 : Option Addr) (rc26 : Nat), r = .tuple #[.slice ra26 ((frmB b).1).length rc26, .int .i64 ((frmB b).2)] ∧ V.Row V.Cod.byte 5 w' V.None' w.heap.size w'.heap.size ra26 rc26 ((frmB b).1) ∧ Gr w w' := by
 have HG := V.Fr.refl [] w
 refine V.enter (n := 24) Tryz.func51 rfl rfl (by decide) rfl ?_
 refine V.sr ?_
 refine V.ru 2 ?_
 refine V.nt ?_
 refine V.seq ?_
 refine V.sr ?_
 refine V.ru 4 ?_
 refine V.orG T_ok 3 3 8 rfl rfl rfl rfl rfl rfl rfl rfl ?_
 refine V.nt ?_
 refine V.condT rfl (fun h1 => ?_) (fun h1 => ?_)
 ·
  try replace h1 := V.dec h1
  try simp only [V.mk] at h1
  refine V.sr ?_
  refine V.ru 2 ?_
  refine V.nt ?_
  refine V.ret ?_
  refine V.tR ?_
  refine V.done rfl ?_
  rw [show frmB b = ([], 21) by unfold frmB; rw [if_pos (by omega)]]
  exact ⟨none, 0, (by first | rfl | simp only [List.length_set]), V.Row.nil, HG⟩
 ·
  try replace h1 := V.dec h1
  try simp only [V.mk] at h1
  refine V.skip ?_
  refine V.tN ?_
  refine V.seq ?_
  have h41 := fourI_len b.length
  have h42 := fourI_len (sumB b).toNat
  refine V.region ?_
  refine V.ru 2 ?_
  first | refine V.cnvN T_ok rfl rfl rfl rfl rfl rfl (V.wrap_u32 (by omega) (by omega)) ?_ | refine V.run T_ok 1 rfl ?_
  refine V.call (four_spec (n := (b.length : Int)) (by omega)) rfl rfl rfl ?_
  rintro _ w4 ⟨a1, c2, rfl, F3, G5⟩
  have z6 := V.Fr.size G5
  refine V.ru 1 ?_
  replace F_b := F_b.gr G5
  refine V.call (sum_spec F_b) rfl rfl rfl ?_
  rintro _ w4_ ⟨rfl, rfl⟩
  refine V.call (four_spec (n := ((sumB b).toNat : Int)) (by omega)) rfl rfl rfl ?_
  rintro _ w11 ⟨a8, c9, rfl, F10, G12⟩
  have z13 := V.Fr.size G12
  replace F3 := F3.gr G12
  refine V.appendR (F3) (V.From.flat V.flat_byte (D' := V.None') (F10.sl.from Tryz.underlying31)) elT31_31 rfl rfl rfl rfl rfl V.lenA (by unfold maxLen; first | omega | (simp only [List.length_take, List.length_drop, List.length_append, List.length_cons, List.length_nil, List.length_replicate, List.length_set, V.length_data, V.S_size]; omega)) (by omega) (by omega) (fun _ h => h.elim) (fun _ h => h.elim) ?_
  rintro a14 c15 w17 G18 s19 F16
  clear F3
  have z20 := Go.RowKit.Below.size G18
  refine V.ru 1 ?_
  refine V.nt ?_
  refine V.sr ?_
  refine V.ru 2 ?_
  replace F_b := F_b.gr G12
  replace F_b := V.Sl.bl F_b G18 (by first | exact (fun _ h => by have := h.2; omega) | (intro k h; have := hD_b k h; omega))
  refine V.appendR (F16) (V.From.flat V.flat_byte (D' := V.None') (F_b.from Tryz.underlying31)) elT31_31 rfl rfl rfl rfl rfl V.lenA (by unfold maxLen; first | omega | (simp only [List.length_take, List.length_drop, List.length_append, List.length_cons, List.length_nil, List.length_replicate, List.length_set, V.length_data, V.S_size]; omega)) (by omega) (by omega) (fun _ h => h.elim) (fun _ h => h.elim) ?_
  rintro a21 c22 w24 G25 s26 F23
  clear F16
  have z27 := Go.RowKit.Below.size G25
  refine V.ru 2 ?_
  refine V.nt ?_
  refine V.ret ?_
  refine V.done rfl ?_
  rw [show frmB b = (fourI b.length ++ fourI (sumB b).toNat ++ b, 0) by unfold frmB; rw [if_neg (by omega)]]
  replace HG := HG.grow (G5.trans G12)
  replace HG := HG.bl (Go.RowKit.Below.mono G18 (by first | assumption | omega))
  replace HG := HG.bl (Go.RowKit.Below.mono G25 (by first | assumption | omega))
  exact ⟨a21, c22, (by first | rfl | simp only [List.length_set]), F23.re, HG⟩

set_option maxHeartbeats 900000 in
set_option maxRecDepth 10000 in
theorem records_spec {w : World}  {D_b : Nat → Prop} {c_b : Nat} {a_b : Option Addr} {b : List UInt8} (F_b : Sl V.Cod.byte w D_b a_b c_b b)  :
    Meets Tryz.prog 99 [.slice a_b b.length c_b] w fun r w' => ∃ (rk1 : Nat), r = .func (.func 141) #[] #[.pointer (some ⟨rk1, 0, none⟩)] ∧ Cells w' rk1 [.slice a_b b.length c_b] 31 ∧ (w.heap.size ≤ rk1 ∧ rk1 < w'.heap.size) ∧ Gr w w' := by
 replace F_b := F_b.flb
 have HG := V.Fr.refl [] w
 refine V.enter (n := 4) Tryz.func99 rfl rfl (by decide) rfl ?_
 refine V.sr ?_
 refine V.box rfl rfl rfl rfl ?_
 rintro k1 w3 s5 s6 G4 Fk2
 have z7 := V.Fr.size G4
 try simp only [V.cellsL, V.spliceL] at Fk2
 refine V.ru 1 ?_
 refine V.nt ?_
 refine V.sr ?_
 refine V.ru 2 ?_
 refine V.nt ?_
 refine V.ret ?_
 refine V.done rfl ?_
 replace HG := HG.grow G4
 exact ⟨k1, (by first | rfl | simp only [List.length_set]), Fk2, ⟨by omega, by omega⟩, HG⟩

set_option maxHeartbeats 900000 in
set_option maxRecDepth 10000 in
theorem whole_spec {w : World}  {D_b : Nat → Prop} {c_b : Nat} {a_b : Option Addr} {b : List UInt8} (F_b : Sl V.Cod.byte w D_b a_b c_b b) (hD_b : ∀ k, D_b k → k < w.heap.size)  :
    Meets Tryz.prog 55 [.slice a_b b.length c_b] w fun r w' => ∃ (ra28 : Option Addr) (rc28 : Nat), r = .tuple #[.slice ra28 ((wholeB b).1).length rc28, .int .i64 ((wholeB b).2)] ∧ V.Row V.Cod.byte 5 w' V.None' w.heap.size w'.heap.size ra28 rc28 ((wholeB b).1) ∧ Gr w w' := by
 have HG := V.Fr.refl [] w
 refine V.denter (n := 16) Tryz.func55 rfl rfl (by decide) rfl ?_
 refine V.dseq ?_
 refine V.dregion ?_
 refine V.box rfl rfl rfl rfl ?_
 rintro k1 w3 s5 s6 G4 Fk2
 have z7 := V.Fr.size G4
 try simp only [V.cellsL, V.spliceL] at Fk2
 refine V.alloc zero31 rfl rfl rfl ?_
 rintro k8 w10 s12 s13 G11 Fk9
 have z14 := V.Fr.size G11
 try simp only [V.cellsL, V.spliceL] at Fk9
 refine V.alloc zero42 rfl rfl rfl ?_
 rintro k15 w17 s19 s20 G18 Fk16
 have z21 := V.Fr.size G18
 try simp only [V.cellsL, V.spliceL] at Fk16
 refine V.nil ?_
 refine V.dtN ?_
 refine V.dseq ?_
 refine V.dseq ?_
 refine V.dregion ?_
 replace Fk2 := Fk2.gr (G11.trans G18)
 refine V.loadO T_ok Fk2 rfl rfl rfl rfl rfl ?_
 replace F_b := F_b.gr (G4.trans (G11.trans G18))
 refine V.call (records_spec F_b) rfl rfl rfl ?_
 rintro _ w25 ⟨k22, rfl, F23, ⟨h24l, h24u⟩, G26⟩
 have z27 := V.Fr.size G26
 refine V.nil ?_
 refine V.dtN ?_
 refine V.dblock ?_
 refine V.rangeF rfl (V.callable Tryz.func141 rfl (by decide)) ?_
 rintro fn36 r28 d29 l30 w31 hr32 G33 hd37 hl38 hs39 FD34 FL35
 have z40 := V.Fr.size G33
 refine V.denterIn (n := 46) Tryz.func141 rfl rfl rfl ?_
 refine V.dblock ?_
 replace F_b := F_b.gr (G26.trans G33)
 have hl63 := F_b.len63
 have FB := F_b
 replace Fk2 := Fk2.gr (G26.trans G33)
 replace Fk9 := Fk9.gr (G18.trans (G26.trans G33))
 replace Fk16 := Fk16.gr (G26.trans G33)
 replace F23 := F23.gr G33
 replace HG := HG.grow (G4.trans (G11.trans (G18.trans (G26.trans G33))))
 refine V.dloopM (fun m e v42 => Fr [] w v42 ∧ w31.heap.size ≤ v42.heap.size ∧ Sl V.Cod.byte v42 D_b a_b c_b b ∧ Cells v42 k1 [.slice a_b b.length c_b] 31 ∧ Cells v42 k8 [.slice none 0 0] 31 ∧ Cells v42 k15 [.int .i64 0] 42 ∧ V.ObjAt v42 d29 (.deferred (some [])) ∧ V.ObjAt v42 l30 (.loop (r28 .ready none)) ∧ ∃ (B : List UInt8) (a1 : Option Addr) (c1 : Nat)  , m = B.length ∧ B.length ≤ b.length ∧ B = b ∧ Cells v42 k22 [.slice a1 B.length c1] 31 ∧ Sl V.Cod.byte v42 D_b a1 c1 B ∧ e 0 = .func (.yield l30) #[] #[] ∧ e 1 = .pointer (some ⟨k22, 0, none⟩)) ?_ ?_
 ·
  exact ⟨_, HG, (by omega), F_b, Fk2, Fk9, Fk16, FD34, FL35, (b), (a_b), (c_b), rfl, (Nat.le_refl _), (rfl), F23, F_b.re, rfl, rfl⟩
 clear HG F_b Fk2 Fk9 Fk16 FD34 FL35 F23 FB
 rintro _ e v42 ⟨HG, z43, F_b, Fk2, Fk9, Fk16, FD34, FL35, B, a1, c1, rfl, hBb, hp0, F23, FB, he0_0, he0_1⟩
 refine V.dknownC (t := 0) he0_0 ?_
 refine V.dknownC (t := 1) he0_1 ?_
 refine V.dseq ?_
 refine V.dseq ?_
 refine V.dregion ?_
 refine V.loadO T_ok F23 rfl rfl rfl rfl rfl ?_
 refine V.ru 2 ?_
 refine V.nil ?_
 refine V.dtN ?_
 refine V.dcondT rfl (fun h0 => ?_) (fun h0 => ?_)
 ·
  try replace h0 := V.dec h0
  try simp only [V.mk] at h0
  refine V.dskip ?_
  refine V.dtN ?_
  refine V.dblock ?_
  refine V.dseq ?_
  refine V.dregion ?_
  refine V.loadO T_ok F23 rfl rfl rfl rfl rfl ?_
  refine V.call (number4_spec FB V.lenA) rfl rfl rfl ?_
  rintro _ v42_ ⟨rfl, rfl⟩
  refine V.ru 1 ?_
  refine V.nil ?_
  refine V.dtN ?_
  refine V.dseq ?_
  refine V.dseq ?_
  refine V.dregion ?_
  refine V.ru 3 ?_
  refine V.orG T_ok 2 2 12 rfl rfl rfl rfl rfl rfl rfl rfl ?_
  refine V.ru 1 ?_
  refine V.split (j := 6) (t := 16) rfl rfl (fun g2_6 => ?_) (fun g2_6 => ?_)
  ·
   try replace g2_6 := V.dec g2_6
   try simp only [V.mk] at g2_6
   have hf0 : firstB B = none := first_no (by omega)
   refine V.ru 7 ?_
   refine V.nil ?_
   refine V.dtN ?_
   refine V.dcondY rfl rfl ?_
   refine V.dret ?_
   refine V.dtR ?_
   refine V.dbR ?_
   refine V.dtR ?_
   refine V.dbR ?_
   refine V.ddone0 ?_
   refine V.done rfl ?_
   refine V.iterN FL35 ?_
   rintro w45 G46
   clear FL35
   have z47 := V.Fr.size G46
   refine V.dbN ?_
   refine V.dtN ?_
   refine V.dseq ?_
   refine V.dregion ?_
   replace Fk9 := Fk9.ma G46
   refine V.storeO Fk9 rfl rfl rfl rfl sz31 rfl rfl rfl rfl ?_
   rintro w48 G49 z51 Fs50
   clear Fk9
   have z52 := V.Fr.size G49
   have Fk9 := Fs50; clear Fs50
   simp only [V.spliceL, V.cellsL] at Fk9
   replace Fk16 := Fk16.ma G46
   replace Fk16 := Fk16.ma G49
   refine V.storeO Fk16 rfl rfl rfl rfl sz42 rfl rfl rfl rfl ?_
   rintro w53 G54 z56 Fs55
   clear Fk16
   have z57 := V.Fr.size G54
   have Fk16 := Fs55; clear Fs55
   simp only [V.spliceL, V.cellsL] at Fk16
   refine V.nil ?_
   refine V.dtN ?_
   refine V.dret ?_
   replace FD34 := FD34.mv1 G46 (by omega)
   replace FD34 := FD34.mv1 G49 (by omega)
   replace FD34 := FD34.mv1 G54 (by omega)
   refine V.ddone1 FD34 ?_
   rintro w58 G59
   clear FD34
   have z60 := V.Fr.size G59
   replace Fk9 := Fk9.ma G54
   replace Fk9 := Fk9.ma G59
   replace Fk16 := Fk16.ma G59
   refine V.done2 rfl (V.resV_cell T_ok Fk9 rfl rfl) (V.resV_cell T_ok Fk16 rfl rfl) ?_
   have hbl : B.length = b.length := by rw [hp0]
   rw [show wholeB b = ([], 21) by rw [← hp0]; first | exact whole_none hf0 | exact whole_long hf1 (by omega)]
   replace HG := HG.n1 G46
   replace HG := HG.n1 G49
   replace HG := HG.n1 G54
   replace HG := HG.n1 G59
   exact ⟨none, 0, (by first | rfl | simp only [List.length_set]), V.Row.nil, HG⟩
  ·
   try replace g2_6 := V.dec g2_6
   try simp only [V.mk] at g2_6
   refine V.ru 1 ?_
   refine V.yes rfl rfl rfl ?_
   first | refine V.cnvN T_ok rfl rfl rfl rfl rfl rfl (V.wrap_in (by omega) (by omega)) ?_ | refine V.run T_ok 1 rfl ?_
   refine V.yes rfl rfl rfl ?_
   refine V.loadO T_ok F23 rfl rfl rfl rfl rfl ?_
   refine V.ru 1 ?_
   refine V.yes rfl rfl rfl ?_
   refine V.subN rfl rfl rfl rfl rfl V.lenA V.lenA ?_
   refine V.ru 2 ?_
   refine V.nil ?_
   refine V.dtN ?_
   refine V.dcondT rfl (fun h2 => ?_) (fun h2 => ?_)
   ·
    try replace h2 := V.dec h2
    try simp only [V.mk] at h2
    have hf0 : firstB B = none := first_no (by omega)
    refine V.dret ?_
    refine V.dtR ?_
    refine V.dbR ?_
    refine V.dtR ?_
    refine V.dbR ?_
    refine V.ddone0 ?_
    refine V.done rfl ?_
    refine V.iterN FL35 ?_
    rintro w61 G62
    clear FL35
    have z63 := V.Fr.size G62
    refine V.dbN ?_
    refine V.dtN ?_
    refine V.dseq ?_
    refine V.dregion ?_
    replace Fk9 := Fk9.ma G62
    refine V.storeO Fk9 rfl rfl rfl rfl sz31 rfl rfl rfl rfl ?_
    rintro w64 G65 z67 Fs66
    clear Fk9
    have z68 := V.Fr.size G65
    have Fk9 := Fs66; clear Fs66
    simp only [V.spliceL, V.cellsL] at Fk9
    replace Fk16 := Fk16.ma G62
    replace Fk16 := Fk16.ma G65
    refine V.storeO Fk16 rfl rfl rfl rfl sz42 rfl rfl rfl rfl ?_
    rintro w69 G70 z72 Fs71
    clear Fk16
    have z73 := V.Fr.size G70
    have Fk16 := Fs71; clear Fs71
    simp only [V.spliceL, V.cellsL] at Fk16
    refine V.nil ?_
    refine V.dtN ?_
    refine V.dret ?_
    replace FD34 := FD34.mv1 G62 (by omega)
    replace FD34 := FD34.mv1 G65 (by omega)
    replace FD34 := FD34.mv1 G70 (by omega)
    refine V.ddone1 FD34 ?_
    rintro w74 G75
    clear FD34
    have z76 := V.Fr.size G75
    replace Fk9 := Fk9.ma G70
    replace Fk9 := Fk9.ma G75
    replace Fk16 := Fk16.ma G75
    refine V.done2 rfl (V.resV_cell T_ok Fk9 rfl rfl) (V.resV_cell T_ok Fk16 rfl rfl) ?_
    have hbl : B.length = b.length := by rw [hp0]
    rw [show wholeB b = ([], 21) by rw [← hp0]; first | exact whole_none hf0 | exact whole_long hf1 (by omega)]
    replace HG := HG.n1 G62
    replace HG := HG.n1 G65
    replace HG := HG.n1 G70
    replace HG := HG.n1 G75
    exact ⟨none, 0, (by first | rfl | simp only [List.length_set]), V.Row.nil, HG⟩
   ·
    try replace h2 := V.dec h2
    try simp only [V.mk] at h2
    refine V.dskip ?_
    refine V.dtN ?_
    refine V.dseq ?_
    refine V.dregion ?_
    refine V.loadO T_ok F23 rfl rfl rfl rfl rfl ?_
    refine V.ru 1 ?_
    first | refine V.cnvN T_ok rfl rfl rfl rfl rfl rfl (V.wrap_in (by omega) (by omega)) ?_ | refine V.run T_ok 1 rfl ?_
    refine V.addN rfl rfl rfl rfl rfl V.lenA V.lenA ?_
    refine V.cut T_ok FB rfl rfl sz5 rfl rfl rfl rfl rfl rfl rfl V.lenA V.lenA V.lenA (fun a77 c78 F79 _ => ?_)
    have hr80 : (B.drop ((8 : Int)).toNat).take ((8 + ((beN (B.take 4)).toNat : Int)) - (8 : Int)).toNat = secB B := secB_at B
    rw [hr80] at F79 ⊢
    clear hr80
    have hrl := secB_len (b := B) (by omega)
    refine V.ru 1 ?_
    refine V.nil ?_
    refine V.dtN ?_
    refine V.dseq ?_
    refine V.dseq ?_
    refine V.ddrawGT 9 (V.sel [(1, (fun v wz => v = .int .u32 ((sumB (secB B)).toNat : Int))), (4, (fun v wz => v = .int .u32 ((beN ((B.drop ((4 : Int)).toNat).take 4)).toNat : Int)))]) mixed (by kernel_rfl) (V.mono_cons V.eqV_mono (V.mono_cons V.eqV_mono V.mono_nil)) ?_
    refine V.grun T_ok 1 rfl (V.sel_none rfl) ?_
    refine V.gcall (fun w' h => (sum_spec (F79.gr h.1)).mono (by rintro v w'' ⟨rfl, rfl⟩; exact ⟨rfl, V.Fr.refl _ _⟩)) rfl rfl rfl rfl ?_
    rintro _ w81 - - rfl
    refine V.gloadO T_ok (fun w' h => F23.gr h.1) rfl rfl rfl rfl rfl rfl ?_
    refine V.gcutD T_ok FB rfl rfl sz5 rfl rfl rfl rfl V.lenA V.lenA (fun a82 c83 F84 => ?_)
    refine V.gcall (fun w' h => (number4_spec (F84.gr h.1) V.lenA).mono (by rintro v w'' ⟨rfl, rfl⟩; exact ⟨rfl, V.Fr.refl _ _⟩)) rfl rfl rfl rfl ?_
    rintro _ w85 - - rfl
    refine V.grun T_ok 2 rfl (V.sel_none rfl) ?_
    refine V.gsplit (j := 6) (t := 35) rfl rfl (fun g4_6 => ?_) (fun g4_6 => ?_)
    ·
     try replace g4_6 := V.dec g4_6
     try simp only [V.mk] at g4_6
     have hf0 : firstB B = none := first_no (fun h => g4_6 (bvI.2 (by simpa using h.2.2.2.2)))
     refine V.grun T_ok 2 rfl (V.sel_none rfl) ?_
     refine V.gnil ?_
     rintro w86 G87 hH88
     have z89 := V.Fr.size G87
     clear hH88
     refine V.icut 0 ?_
     refine V.nil ?_
     refine V.icutN ?_
     refine V.iall ?_
     refine V.ru 3 ?_
     refine V.nil ?_
     refine V.dtN ?_
     refine V.dcondY rfl rfl ?_
     refine V.dret ?_
     refine V.dtR ?_
     refine V.dbR ?_
     refine V.dtR ?_
     refine V.dbR ?_
     refine V.ddone0 ?_
     refine V.done rfl ?_
     replace FL35 := FL35.gr G87
     refine V.iterN FL35 ?_
     rintro w90 G91
     clear FL35
     have z92 := V.Fr.size G91
     refine V.dbN ?_
     refine V.dtN ?_
     refine V.dseq ?_
     refine V.dregion ?_
     replace Fk9 := Fk9.gr G87
     replace Fk9 := Fk9.ma G91
     refine V.storeO Fk9 rfl rfl rfl rfl sz31 rfl rfl rfl rfl ?_
     rintro w93 G94 z96 Fs95
     clear Fk9
     have z97 := V.Fr.size G94
     have Fk9 := Fs95; clear Fs95
     simp only [V.spliceL, V.cellsL] at Fk9
     replace Fk16 := Fk16.gr G87
     replace Fk16 := Fk16.ma G91
     replace Fk16 := Fk16.ma G94
     refine V.storeO Fk16 rfl rfl rfl rfl sz42 rfl rfl rfl rfl ?_
     rintro w98 G99 z101 Fs100
     clear Fk16
     have z102 := V.Fr.size G99
     have Fk16 := Fs100; clear Fs100
     simp only [V.spliceL, V.cellsL] at Fk16
     refine V.nil ?_
     refine V.dtN ?_
     refine V.dret ?_
     replace FD34 := FD34.gr G87
     replace FD34 := FD34.mv1 G91 (by omega)
     replace FD34 := FD34.mv1 G94 (by omega)
     replace FD34 := FD34.mv1 G99 (by omega)
     refine V.ddone1 FD34 ?_
     rintro w103 G104
     clear FD34
     have z105 := V.Fr.size G104
     replace Fk9 := Fk9.ma G99
     replace Fk9 := Fk9.ma G104
     replace Fk16 := Fk16.ma G104
     refine V.done2 rfl (V.resV_cell T_ok Fk9 rfl rfl) (V.resV_cell T_ok Fk16 rfl rfl) ?_
     have hbl : B.length = b.length := by rw [hp0]
     rw [show wholeB b = ([], 21) by rw [← hp0]; first | exact whole_none hf0 | exact whole_long hf1 (by omega)]
     replace HG := HG.grow G87
     replace HG := HG.n1 G91
     replace HG := HG.n1 G94
     replace HG := HG.n1 G99
     replace HG := HG.n1 G104
     exact ⟨none, 0, (by first | rfl | simp only [List.length_set]), V.Row.nil, HG⟩
    ·
     try replace g4_6 := V.dec g4_6
     try simp only [V.mk] at g4_6
     have hf1 : firstB B = some (secB B) := first_yes ⟨by omega, by omega, by omega, by omega, by simpa using bvI.1 g4_6⟩
     refine V.grun T_ok 2 rfl (V.sel_none rfl) ?_
     refine V.gnil ?_
     rintro w106 G107 hH108
     have z109 := V.Fr.size G107
     clear hH108
     refine V.icut 0 ?_
     refine V.nil ?_
     refine V.icutN ?_
     refine V.iyes rfl rfl rfl rfl ?_
     replace FL35 := FL35.gr G107
     refine V.iyield rfl rfl rfl rfl hr32 FL35 rfl ?_
     refine V.dregion ?_
     refine V.ru 1 ?_
     refine V.nil ?_
     refine V.beginN FL35 ?_
     rintro w110 G111 Fn112
     clear FL35
     have z113 := V.Fr.size G111
     have FL35 := Fn112; clear Fn112
     refine V.dblock ?_
     refine V.dseq ?_
     refine V.dseq ?_
     refine V.dregion ?_
     refine V.ru 2 ?_
     refine V.addN rfl rfl rfl rfl rfl V.lenA V.lenA ?_
     replace Fk2 := Fk2.gr G107
     replace Fk2 := Fk2.ma G111
     refine V.loadO T_ok Fk2 rfl rfl rfl rfl rfl ?_
     refine V.ru 2 ?_
     refine V.nil ?_
     refine V.dtN ?_
     refine V.dcondT rfl (fun h3 => ?_) (fun h3 => ?_)
     ·
      try replace h3 := V.dec h3
      try simp only [V.mk] at h3
      refine V.dexit ?_
      refine V.dtX ?_
      refine V.dbX rfl ?_
      refine V.roundX FL35 ?_
      rintro w114 G115 Fn116
      clear FL35
      have z117 := V.Fr.size G115
      have FL35 := Fn116; clear Fn116
      refine V.iall ?_
      refine V.ru 2 ?_
      refine V.nil ?_
      refine V.dtN ?_
      refine V.dcondY rfl rfl ?_
      refine V.dret ?_
      refine V.dtR ?_
      refine V.dbR ?_
      refine V.dtR ?_
      refine V.dbR ?_
      refine V.ddone0 ?_
      refine V.done rfl ?_
      refine V.iterX FL35 ?_
      rintro w118 G119
      clear FL35
      have z120 := V.Fr.size G119
      refine V.dbE ?_
      refine V.dtN ?_
      refine V.dseq ?_
      refine V.dregion ?_
      replace Fk9 := Fk9.gr G107
      replace Fk9 := Fk9.ma G111
      replace Fk9 := Fk9.ma G115
      replace Fk9 := Fk9.ma G119
      refine V.storeO Fk9 rfl rfl rfl rfl sz31 rfl rfl rfl rfl ?_
      rintro w121 G122 z124 Fs123
      clear Fk9
      have z125 := V.Fr.size G122
      have Fk9 := Fs123; clear Fs123
      simp only [V.spliceL, V.cellsL] at Fk9
      replace Fk16 := Fk16.gr G107
      replace Fk16 := Fk16.ma G111
      replace Fk16 := Fk16.ma G115
      replace Fk16 := Fk16.ma G119
      replace Fk16 := Fk16.ma G122
      refine V.storeO Fk16 rfl rfl rfl rfl sz42 rfl rfl rfl rfl ?_
      rintro w126 G127 z129 Fs128
      clear Fk16
      have z130 := V.Fr.size G127
      have Fk16 := Fs128; clear Fs128
      simp only [V.spliceL, V.cellsL] at Fk16
      refine V.nil ?_
      refine V.dtN ?_
      refine V.dret ?_
      replace FD34 := FD34.gr G107
      replace FD34 := FD34.mv1 G111 (by omega)
      replace FD34 := FD34.mv1 G115 (by omega)
      replace FD34 := FD34.mv1 G119 (by omega)
      replace FD34 := FD34.mv1 G122 (by omega)
      replace FD34 := FD34.mv1 G127 (by omega)
      refine V.ddone1 FD34 ?_
      rintro w131 G132
      clear FD34
      have z133 := V.Fr.size G132
      replace Fk9 := Fk9.ma G127
      replace Fk9 := Fk9.ma G132
      replace Fk16 := Fk16.ma G132
      refine V.done2 rfl (V.resV_cell T_ok Fk9 rfl rfl) (V.resV_cell T_ok Fk16 rfl rfl) ?_
      have hbl : B.length = b.length := by rw [hp0]
      rw [show wholeB b = ([], 21) by rw [← hp0]; first | exact whole_none hf0 | exact whole_long hf1 (by omega)]
      replace HG := HG.grow G107
      replace HG := HG.n1 G111
      replace HG := HG.n1 G115
      replace HG := HG.n1 G119
      replace HG := HG.n1 G122
      replace HG := HG.n1 G127
      replace HG := HG.n1 G132
      exact ⟨none, 0, (by first | rfl | simp only [List.length_set]), V.Row.nil, HG⟩
     ·
      try replace h3 := V.dec h3
      try simp only [V.mk] at h3
      refine V.dskip ?_
      refine V.dtN ?_
      refine V.dseq ?_
      refine V.dregion ?_
      refine V.ru 1 ?_
      replace F79 := F79.gr G107
      replace F79 := F79.mb G111 hD_b
      refine V.call (clone_spec F79 V.lenA) rfl rfl rfl ?_
      rintro _ w137 ⟨a134, c135, rfl, F136, G138⟩
      have z139 := V.Fr.size G138
      replace Fk9 := Fk9.gr G107
      replace Fk9 := Fk9.ma G111
      replace Fk9 := Fk9.gr G138
      refine V.storeO Fk9 rfl rfl rfl rfl sz31 rfl rfl rfl rfl ?_
      rintro w140 G141 z143 Fs142
      clear Fk9
      have z144 := V.Fr.size G141
      have Fk9 := Fs142; clear Fs142
      simp only [V.spliceL, V.cellsL] at Fk9
      replace Fk16 := Fk16.gr G107
      replace Fk16 := Fk16.ma G111
      replace Fk16 := Fk16.gr G138
      replace Fk16 := Fk16.ma G141
      refine V.storeO Fk16 rfl rfl rfl rfl sz42 rfl rfl rfl rfl ?_
      rintro w145 G146 z148 Fs147
      clear Fk16
      have z149 := V.Fr.size G146
      have Fk16 := Fs147; clear Fs147
      simp only [V.spliceL, V.cellsL] at Fk16
      refine V.nil ?_
      refine V.dtN ?_
      refine V.dret ?_
      refine V.dbR ?_
      replace FL35 := FL35.gr G138
      replace FL35 := FL35.mv1 G141 (by omega)
      replace FL35 := FL35.mv1 G146 (by omega)
      refine V.roundR FL35 ?_
      rintro w150 G151 Fn152
      clear FL35
      have z153 := V.Fr.size G151
      have FL35 := Fn152; clear Fn152
      refine V.iall ?_
      refine V.ru 2 ?_
      refine V.nil ?_
      refine V.dtN ?_
      refine V.dcondY rfl rfl ?_
      refine V.dret ?_
      refine V.dtR ?_
      refine V.dbR ?_
      refine V.dtR ?_
      refine V.dbR ?_
      refine V.ddone0 ?_
      refine V.done rfl ?_
      refine V.iterR FL35 ?_
      rintro w154 G155
      clear FL35
      have z156 := V.Fr.size G155
      refine V.dbR ?_
      refine V.dtR ?_
      replace FD34 := FD34.gr G107
      replace FD34 := FD34.mv1 G111 (by omega)
      replace FD34 := FD34.gr G138
      replace FD34 := FD34.mv1 G141 (by omega)
      replace FD34 := FD34.mv1 G146 (by omega)
      replace FD34 := FD34.mv1 G151 (by omega)
      replace FD34 := FD34.mv1 G155 (by omega)
      refine V.ddone1 FD34 ?_
      rintro w157 G158
      clear FD34
      have z159 := V.Fr.size G158
      replace Fk9 := Fk9.ma G146
      replace Fk9 := Fk9.ma G151
      replace Fk9 := Fk9.ma G155
      replace Fk9 := Fk9.ma G158
      replace Fk16 := Fk16.ma G151
      replace Fk16 := Fk16.ma G155
      replace Fk16 := Fk16.ma G158
      refine V.done2 rfl (V.resV_cell T_ok Fk9 rfl rfl) (V.resV_cell T_ok Fk16 rfl rfl) ?_
      have hbl : B.length = b.length := by rw [hp0]
      rw [show wholeB b = (secB B, 0) by rw [← hp0]; exact whole_some hf1 (by omega)]
      replace F136 := F136.ma G141
      replace F136 := F136.ma G146
      replace F136 := F136.ma G151
      replace F136 := F136.ma G155
      replace F136 := F136.ma G158
      replace HG := HG.grow G107
      replace HG := HG.n1 G111
      replace HG := HG.grow G138
      replace HG := HG.n1 G141
      replace HG := HG.n1 G146
      replace HG := HG.n1 G151
      replace HG := HG.n1 G155
      replace HG := HG.n1 G158
      exact ⟨a134, c135, (by first | rfl | simp only [List.length_set]), F136.re, HG⟩
 ·
  try replace h0 := V.dec h0
  try simp only [V.mk] at h0
  have hf0 : firstB B = none := first_no (by omega)
  refine V.dexit ?_
  refine V.dtX ?_
  refine V.dtX ?_
  refine V.dbE ?_
  refine V.ddone0N ?_
  refine V.done rfl ?_
  refine V.iterN FL35 ?_
  rintro w160 G161
  clear FL35
  have z162 := V.Fr.size G161
  refine V.dbN ?_
  refine V.dtN ?_
  refine V.dseq ?_
  refine V.dregion ?_
  replace Fk9 := Fk9.ma G161
  refine V.storeO Fk9 rfl rfl rfl rfl sz31 rfl rfl rfl rfl ?_
  rintro w163 G164 z166 Fs165
  clear Fk9
  have z167 := V.Fr.size G164
  have Fk9 := Fs165; clear Fs165
  simp only [V.spliceL, V.cellsL] at Fk9
  replace Fk16 := Fk16.ma G161
  replace Fk16 := Fk16.ma G164
  refine V.storeO Fk16 rfl rfl rfl rfl sz42 rfl rfl rfl rfl ?_
  rintro w168 G169 z171 Fs170
  clear Fk16
  have z172 := V.Fr.size G169
  have Fk16 := Fs170; clear Fs170
  simp only [V.spliceL, V.cellsL] at Fk16
  refine V.nil ?_
  refine V.dtN ?_
  refine V.dret ?_
  replace FD34 := FD34.mv1 G161 (by omega)
  replace FD34 := FD34.mv1 G164 (by omega)
  replace FD34 := FD34.mv1 G169 (by omega)
  refine V.ddone1 FD34 ?_
  rintro w173 G174
  clear FD34
  have z175 := V.Fr.size G174
  replace Fk9 := Fk9.ma G169
  replace Fk9 := Fk9.ma G174
  replace Fk16 := Fk16.ma G174
  refine V.done2 rfl (V.resV_cell T_ok Fk9 rfl rfl) (V.resV_cell T_ok Fk16 rfl rfl) ?_
  have hbl : B.length = b.length := by rw [hp0]
  rw [show wholeB b = ([], 21) by rw [← hp0]; first | exact whole_none hf0 | exact whole_long hf1 (by omega)]
  replace HG := HG.n1 G161
  replace HG := HG.n1 G164
  replace HG := HG.n1 G169
  replace HG := HG.n1 G174
  exact ⟨none, 0, (by first | rfl | simp only [List.length_set]), V.Row.nil, HG⟩

end Go.Proofs.YtmmgmkklakkooaaGreat
