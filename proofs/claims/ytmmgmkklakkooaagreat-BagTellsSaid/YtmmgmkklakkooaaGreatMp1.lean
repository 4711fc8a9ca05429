/- Proved here: walks: what functions of this seat's program return and what they leave of memory, each as a contract. Conditions: stated at each theorem. -/
import Derived.Test.YtmmgmkklakkooaaGreatM0
namespace Go.Proofs.YtmmgmkklakkooaaGreat
set_option linter.unusedVariables false
set_option linter.unusedSimpArgs false
open Go
open V (Bytes Meets Env Sl Own Gr Fr Cells S)

/-! ### Numbers as bytes -/
/-- the number at the beginning, and how many bytes it has -/
def dec : List UInt8 → Nat → Nat → Nat × Nat
  | [], _, _ => (0, 0)
  | c :: cs, i, v => if 9 ≤ i then (0, 0) else
    if c.toNat < 128 then (if c.toNat = 0 ∧ 0 < i then (0, 0) else (v + c.toNat % 128 * 128 ^ i, i + 1)) else dec cs (i + 1) (v + c.toNat % 128 * 128 ^ i)
theorem dec_nine : ∀ (cs : List UInt8) (v : Nat), dec cs 9 v = (0, 0)
  | [], _ => rfl
  | c :: cs, v => by simp [dec]
theorem and128 (c : UInt8) : (Go.bits .and .u8 (c.toNat : Int) 128 = 0) ↔ c.toNat < 128 := by
  have h : ∀ n : Nat, n < 256 → ((Go.bits .and .u8 (n : Int) 128 = 0) ↔ n < 128) := by decide +kernel
  exact h _ c.toNat_lt
theorem andNot128 (c : UInt8) : Go.bits .andNot .u8 (c.toNat : Int) 128 = ((c.toNat % 128 : Nat) : Int) := by
  have h : ∀ n : Nat, n < 256 → Go.bits .andNot .u8 (n : Int) 128 = ((n % 128 : Nat) : Int) := by decide +kernel
  exact h _ c.toNat_lt
theorem bits_or_add (v k c : Nat) (h : v < 128 ^ k) (hk : k ≤ 8) (hc : c < 128) : Go.bits .or .i64 (v : Int) ((c * 128 ^ k : Nat) : Int) = ((v + c * 128 ^ k : Nat) : Int) := by
  have h1 : 128 ^ k = 2 ^ (7 * k) := by rw [show (128 : Nat) = 2 ^ 7 by decide, ← Nat.pow_mul]
  rw [h1] at h ⊢
  have h2 : (2 : Nat) ^ (7 * k) ≤ 2 ^ 56 := Nat.pow_le_pow_right (by decide) (by omega)
  have h3 : c * 2 ^ (7 * k) ≤ 127 * 2 ^ (7 * k) := Nat.mul_le_mul_right _ (by omega)
  have h4 : (2 : Nat) ^ 56 = 72057594037927936 := by decide
  have h5 : v ||| (c * 2 ^ (7 * k)) = v + c * 2 ^ (7 * k) := by
    rw [Nat.or_comm, Nat.mul_comm, ← Nat.two_pow_add_eq_or_of_lt h, Nat.add_comm]
  generalize hq : c * 2 ^ (7 * k) = q at *
  generalize 2 ^ (7 * k) = m at *
  have hv : v < 2 ^ 64 := by omega
  have hq' : q < 2 ^ 64 := by omega
  have hs : v + q < 2 ^ 63 := by omega
  show IntKind.i64.wrap ((BitVec.ofInt 64 (v : Int) ||| BitVec.ofInt 64 (q : Int)).toNat : Int) = _
  have e1 : (BitVec.ofInt 64 (v : Int) ||| BitVec.ofInt 64 (q : Int)).toNat = v + q := by
    rw [BitVec.toNat_or]
    simp only [BitVec.ofInt_natCast, BitVec.toNat_ofNat]
    rw [Nat.mod_eq_of_lt hv, Nat.mod_eq_of_lt hq', h5]
  rw [e1]
  exact V.wrap_in (by omega) (by omega)

set_option maxHeartbeats 900000 in
set_option maxRecDepth 10000 in
theorem next_spec {w : World} {D : Nat → Prop} {c : Nat} {a : Option Addr} {bs : List UInt8} (F : Bytes w D a c bs) :
    Meets Tryz.prog 143 [.slice a bs.length c] w fun v w' => w = w' ∧ v = .tuple #[.int .i64 (dec bs 0 0).1, .int .i64 (dec bs 0 0).2] := by
 refine V.enter (n := 39) Tryz.func143 rfl rfl (by decide) rfl ?_
 refine V.sr ?_
 refine V.ru 2 ?_
 refine V.nt ?_
 refine V.sr ?_
 refine V.ru 1 ?_
 refine V.nt ?_
 refine V.seq ?_
 refine V.sr ?_
 refine V.ru 4 ?_
 refine V.cut T_ok F rfl rfl sz5 rfl rfl rfl rfl rfl rfl rfl (by omega) (by omega) (by omega) (fun a1 c1 F2 _ => ?_)
 refine V.ru 2 ?_
 refine V.nt ?_
 refine V.block ?_
 have hlen : ((bs.drop (0 : Int).toNat).take (min (bs.length : Int) 9 - 0).toNat).length = min bs.length 9 := by simp; omega
 have hys : ∀ i, i < min bs.length 9 → ((bs.drop (0 : Int).toNat).take (min (bs.length : Int) 9 - 0).toNat)[i]? = bs[i]? := fun i hi => by rw [List.getElem?_take, if_pos (by omega)]; simp
 generalize (bs.drop (0 : Int).toNat).take (min (bs.length : Int) 9 - 0).toNat = ys at *
 refine V.loop (fun e w' => w' = w ∧ ∃ i v : Nat, i ≤ ys.length ∧ v < 128 ^ i ∧ dec bs 0 0 = dec (bs.drop i) i v ∧ e 4 = .int .i64 v ∧ e 13 = .int .i64 i ∧ e 11 = .slice a1 ys.length c1 ∧ e 12 = .int .i64 ys.length) (fun e w' => ys.length - (V.intOf (e 13)).toNat) ?_ ?_
 ·
  exact ⟨rfl, 0, 0, Nat.zero_le _, by decide, rfl, rfl, rfl, rfl, rfl⟩
 rintro e w' ⟨rfl, i, v, hi, hv, hd, h4, h13, h11, h12⟩
 have hm : (V.intOf (e 13)).toNat = i := by rw [h13]; simp [V.intOf]
 rw [hm]
 refine V.knownC (t := 4) h4 ?_
 refine V.knownC (t := 13) h13 ?_
 refine V.knownC (t := 11) h11 ?_
 refine V.knownC (t := 12) h12 ?_
 refine V.sr ?_
 refine V.ru 1 ?_
 refine V.nt ?_
 refine V.seq ?_
 refine V.condT rfl (fun h3 => ?_) (fun h3 => ?_)
 ·
  try replace h3 := V.dec h3
  try simp only [V.mk] at h3
  refine V.skip ?_
  refine V.tN ?_
  refine V.seq ?_
  refine V.block ?_
  refine V.sr ?_
  refine V.ru 1 ?_
  refine V.elem T_ok F2 rfl rfl sz5 rfl rfl rfl rfl (by omega) (by omega) ?_
  rintro b o cs hx hb1 rfl hA
  have hi9 : i < 9 := by omega
  have hti : (i : Int).toNat = i := by omega
  have hdr : bs.drop i = ys[(i : Int).toNat] :: bs.drop (i + 1) := by
    have h1 := hys i (by omega)
    have hib : i < bs.length := by omega
    rw [List.drop_eq_getElem_cons hib]
    congr 1
    rw [List.getElem?_eq_getElem (by omega), List.getElem?_eq_getElem hib] at h1
    simp only [hti]
    exact (Option.some.inj h1).symm
  generalize ys[(i : Int).toNat] = ch at *
  have hand := and128 ch
  have hnot := andNot128 ch
  have hch := ch.toNat_lt
  have hval : Go.bits .or .i64 (v : Int) (IntKind.i64.wrap (Go.bits .andNot .u8 (ch.toNat : Int) 128 * 2 ^ min (7 * (i : Int)).toNat IntKind.i64.bits)) = ((v + ch.toNat % 128 * 128 ^ i : Nat) : Int) := by
    rw [hnot]
    have h7 : min (7 * (i : Int)).toNat IntKind.i64.bits = 7 * i := by simp [IntKind.bits]; omega
    have hp : (2 : Int) ^ (7 * i) = ((128 ^ i : Nat) : Int) := by
      rw [show (128 : Nat) = 2 ^ 7 by decide, ← Nat.pow_mul]; simp
    have hle : ch.toNat % 128 * 128 ^ i ≤ 127 * 128 ^ 8 := Nat.mul_le_mul (by omega) (Nat.pow_le_pow_right (by decide) (by omega))
    rw [h7, hp, ← Int.natCast_mul, V.wrap_in (x := ((ch.toNat % 128 * 128 ^ i : Nat) : Int)) (by omega) (by omega)]
    exact bits_or_add v i _ hv (by omega) (by omega)
  have hlt : v + ch.toNat % 128 * 128 ^ i < 128 ^ (i + 1) := by
    have : ch.toNat % 128 * 128 ^ i ≤ 127 * 128 ^ i := Nat.mul_le_mul_right _ (by omega)
    rw [Nat.pow_succ]; omega
  refine V.loadA T_ok (o0 := o) (off := 0) hA rfl rfl rfl rfl rfl ?_
  refine V.ru 2 ?_
  refine V.nt ?_
  refine V.sr ?_
  refine V.ru 3 ?_
  first | refine V.cnvN T_ok rfl rfl rfl rfl rfl rfl (V.wrap_in (by omega) (by omega)) ?_ | refine V.run T_ok 1 rfl ?_
  refine V.ru 1 ?_
  first | refine V.mulN rfl rfl rfl rfl rfl (by omega) (by omega) ?_ | refine V.run T_ok 1 rfl ?_
  refine V.shlN rfl rfl rfl rfl rfl (by omega) ?_
  refine V.ru 2 ?_
  refine V.nt ?_
  refine V.sr ?_
  refine V.ru 3 ?_
  refine V.nt ?_
  refine V.condT rfl (fun h6 => ?_) (fun h6 => ?_)
  ·
   try replace h6 := V.dec h6
   try simp only [V.mk] at h6
   refine V.seq ?_
   refine V.sr ?_
   refine V.ru 3 ?_
   refine V.andG T_ok 2 2 31 rfl rfl rfl rfl rfl rfl rfl rfl ?_
   refine V.nt ?_
   refine V.condT rfl (fun h7 => ?_) (fun h7 => ?_)
   ·
    try replace h7 := V.dec h7
    try simp only [V.mk] at h7
    refine V.sr ?_
    refine V.ru 2 ?_
    refine V.nt ?_
    refine V.ret ?_
    refine V.tR ?_
    refine V.bR ?_
    refine V.tR ?_
    refine V.tR ?_
    refine V.bR ?_
    refine V.tR ?_
    refine V.done rfl ?_
    have hlow : ch.toNat < 128 := hand.1 h6
    have hz : ch.toNat = 0 ∧ 0 < i := by omega
    refine ⟨rfl, ?_⟩
    rw [hd, hdr]; simp only [dec]; rw [if_neg (by omega), if_pos hlow, if_pos hz]; rfl
   ·
    try replace h7 := V.dec h7
    try simp only [V.mk] at h7
    refine V.skip ?_
    refine V.tN ?_
    refine V.sr ?_
    refine V.ru 2 ?_
    first | refine V.addN rfl rfl rfl rfl rfl (by omega) (by omega) ?_ | refine V.run T_ok 1 rfl ?_
    refine V.ru 2 ?_
    refine V.nt ?_
    refine V.ret ?_
    refine V.bR ?_
    refine V.tR ?_
    refine V.tR ?_
    refine V.bR ?_
    refine V.tR ?_
    refine V.done rfl ?_
    have hlow : ch.toNat < 128 := hand.1 h6
    have hz : ¬ (ch.toNat = 0 ∧ 0 < i) := by omega
    refine ⟨rfl, ?_⟩
    rw [hd, hdr]; simp only [dec]; rw [if_neg (by omega), if_pos hlow, if_neg hz, hval]; rfl
  ·
   try replace h6 := V.dec h6
   try simp only [V.mk] at h6
   refine V.skip ?_
   refine V.bN ?_
   refine V.tN ?_
   refine V.region ?_
   first | refine V.addN rfl rfl rfl rfl rfl (by omega) (by omega) ?_ | refine V.run T_ok 1 rfl ?_
   refine V.ru 1 ?_
   refine V.nt ?_
   have hnl : ¬ ch.toNat < 128 := fun h => h6 (hand.2 h)
   refine ⟨⟨rfl, i + 1, v + ch.toNat % 128 * 128 ^ i, by omega, hlt, ?_, congrArg (Value.int .i64) hval, rfl, rfl, rfl⟩, ?_⟩
   · rw [hd, hdr]; simp only [dec]; rw [if_neg (by omega), if_neg hnl]
   · show ys.length - ((i : Int) + 1).toNat < _; omega
 ·
  try replace h3 := V.dec h3
  try simp only [V.mk] at h3
  refine V.exit ?_
  refine V.tX ?_
  refine V.tX ?_
  refine V.bE ?_
  refine V.tN ?_
  refine V.sr ?_
  refine V.ru 2 ?_
  refine V.nt ?_
  refine V.ret ?_
  refine V.done rfl ?_
  refine ⟨rfl, ?_⟩
  have : dec (bs.drop i) i v = (0, 0) := by
    by_cases h9 : i = 9
    · subst h9; exact dec_nine _ _
    · rw [List.drop_of_length_le (by omega)]; rfl
  rw [hd, this]; rfl


/-- a number's bytes -/
def numB (v : Nat) : List UInt8 := if v < 128 then [UInt8.ofNat v] else UInt8.ofNat (128 + v % 128) :: numB (v / 128)
termination_by v
decreasing_by omega
theorem numB_lt {v : Nat} (h : v < 128) : numB v = [UInt8.ofNat v] := by rw [numB, if_pos h]
theorem numB_ge {v : Nat} (h : 128 ≤ v) : numB v = UInt8.ofNat (128 + v % 128) :: numB (v / 128) := by rw [numB, if_neg (by omega)]
theorem or128 (v : Int) (h0 : 0 ≤ v) : Go.bits .or .u8 (IntKind.u8.wrap v) 128 = (((UInt8.ofNat (128 + v.toNat % 128)).toNat : Nat) : Int) := by
  have h : ∀ n : Nat, n < 256 → Go.bits .or .u8 (n : Int) 128 = (((UInt8.ofNat (128 + n % 128)).toNat : Nat) : Int) := by decide +kernel
  have e1 : IntKind.u8.wrap v = ((v.toNat % 256 : Nat) : Int) := by
    simp [IntKind.wrap, IntKind.bits, IntKind.signed]; omega
  rw [e1, h _ (Nat.mod_lt _ (by decide))]
  congr 4
  omega
theorem byte_of (v : Int) (h0 : 0 ≤ v) : IntKind.u8.wrap v = (((UInt8.ofNat v.toNat).toNat : Nat) : Int) := by
  simp [IntKind.wrap, IntKind.bits, IntKind.signed]; omega

set_option maxHeartbeats 900000 in
set_option maxRecDepth 10000 in
theorem number_spec {w : World} {D : Nat → Prop} {c : Nat} {a : Option Addr} {bs : List UInt8} {v : Int} (F : Bytes w D a c bs) (hD : ∀ k, D k → k < w.heap.size) (hl : bs.length ≤ 70368744177664) (hv : v ≤ 9223372036854775807) :
    Meets Tryz.prog 45 [.slice a bs.length c, .int .i64 v] w fun r w' => ∃ a' c', r = .slice a' (bs ++ numB v.toNat).length c' ∧ V.New V.Cod.byte 5 w w' a' c' (bs ++ numB v.toNat) ∧ Gr w w' := by
 have HG := V.Fr.refl [] w
 refine V.enter (n := 28) Tryz.func45 rfl rfl (by decide) rfl ?_
 refine V.sr ?_
 refine V.ru 1 ?_
 refine V.nt ?_
 refine V.sr ?_
 refine V.ru 5 ?_
 refine V.cutFull T_ok F rfl rfl sz5 rfl rfl rfl rfl rfl (fun a1 F1 => ?_)
 refine V.ru 1 ?_
 refine V.nt ?_
 refine V.sr ?_
 refine V.ru 3 ?_
 refine V.nt ?_
 refine V.seq ?_
 refine V.block ?_
 have Facc : V.Acc V.Cod.byte 5 w w.heap.size a1 bs.length bs := ⟨.inl ⟨rfl, F1.mono hD⟩⟩
 have hm0 : max v 0 = ((v.toNat : Nat) : Int) := by omega
 refine V.loop (fun e w' => Gr w w' ∧ ∃ (ks : List UInt8) (u m : Nat) (a : Option Addr) (c : Nat), bs ++ numB v.toNat = ks ++ numB u ∧ u < 128 ^ m ∧ 1 ≤ m ∧ ks.length + m = bs.length + 9 ∧ e 0 = .slice a ks.length c ∧ e 1 = .int .i64 u ∧ V.Acc V.Cod.byte 5 w' w.heap.size a c ks) (fun e w' => (V.intOf (e 1)).toNat) ?_ ?_
 ·
  exact ⟨HG, bs, v.toNat, 9, a1, bs.length, rfl, by omega, by omega, rfl, rfl, congrArg (Value.int .i64) hm0, Facc⟩
 rintro e w' ⟨HG, ks, u, m, a2, c2, hks, hu, hm1, hkl, h0, h1, Facc⟩
 have hmeas : (V.intOf (e 1)).toNat = u := by rw [h1]; simp [V.intOf]
 rw [hmeas]
 refine V.knownC (t := 0) h0 ?_
 refine V.knownC (t := 1) h1 ?_
 refine V.seq ?_
 refine V.sr ?_
 refine V.ru 2 ?_
 refine V.nt ?_
 refine V.condT rfl (fun h3 => ?_) (fun h3 => ?_)
 ·
  try replace h3 := V.dec h3
  try simp only [V.mk] at h3
  refine V.skip ?_
  refine V.tN ?_
  refine V.seq ?_
  refine V.block ?_
  refine V.region ?_
  refine V.ru 2 ?_
  refine V.ru 1 ?_
  refine V.ru 1 ?_
  refine V.mkSlice T_ok zero5 rfl rfl sz5 rfl rfl rfl rfl rfl rfl ?_
  rintro kb w1 s3 s4 G2 Fkb
  have z5 := V.Fr.size G2
  replace Facc := Facc.gr G2
  replace HG := HG.grow G2
  rw [or128 _ (by omega)] at Fkb
  refine V.appendA V.flat_byte (Facc) (V.from_byte Fkb Tryz.underlying31) elT31_31 rfl rfl rfl rfl rfl (by (simp only [List.length_cons, List.length_nil]; omega)) (by unfold maxLen; (simp only [List.length_cons, List.length_nil]; omega)) (by have := HG.size; omega) (by simp) ?_
  rintro a3 c3 w6 G7 s8 ⟨g3, q9, q10, Fnew⟩
  clear Facc
  clear Fkb
  have z11 := Go.RowKit.Below.size G7
  replace HG := HG.bl G7
  have F3 := Fnew; clear Fnew
  refine V.ru 1 ?_
  refine V.nil ?_
  refine V.bN ?_
  refine V.tN ?_
  refine V.region ?_
  refine V.ru 3 ?_
  refine V.nt ?_
  have hn : numB u = UInt8.ofNat (128 + u % 128) :: numB (u / 128) := numB_ge (by omega)
  have hm2 : 2 ≤ m := by
    rcases Nat.lt_or_ge m 2 with h | h
    · have : m = 1 := by omega
      subst this; omega
    · exact h
  have hu2 : u / 128 < 128 ^ (m - 1) := by
    have : 128 ^ m = 128 * 128 ^ (m - 1) := by rw [show m = (m - 1) + 1 by omega, Nat.pow_succ, Nat.mul_comm]; rfl
    exact Nat.div_lt_of_lt_mul (by omega)
  refine ⟨⟨HG, ks ++ [UInt8.ofNat (128 + u % 128)], u / 128, m - 1, a3, c3, by rw [hks, hn]; simp, hu2, by omega, by rw [List.length_append]; simp; omega, rfl, ?_, ⟨.inr ⟨g3, by assumption, F3⟩⟩⟩, ?_⟩
  · show Value.int .i64 (((u : Nat) : Int).fdiv (2 ^ min (7 : Int).toNat IntKind.i64.bits)) = _
    rw [show (2 : Int) ^ min (7 : Int).toNat IntKind.i64.bits = 128 by decide, Int.fdiv_eq_ediv_of_nonneg _ (by decide)]; rfl
  · show (((u : Nat) : Int).fdiv (2 ^ min (7 : Int).toNat IntKind.i64.bits)).toNat < _
    rw [show (2 : Int) ^ min (7 : Int).toNat IntKind.i64.bits = 128 by decide, Int.fdiv_eq_ediv_of_nonneg _ (by decide)]; omega
 ·
  try replace h3 := V.dec h3
  try simp only [V.mk] at h3
  refine V.exit ?_
  refine V.tX ?_
  refine V.tX ?_
  refine V.bE ?_
  refine V.tN ?_
  refine V.sr ?_
  refine V.ru 2 ?_
  refine V.ru 1 ?_
  refine V.mkSlice T_ok zero5 rfl rfl sz5 rfl rfl rfl rfl rfl rfl ?_
  rintro kb w12 s14 s15 G13 Fkb
  have z16 := V.Fr.size G13
  replace Facc := Facc.gr G13
  replace HG := HG.grow G13
  rw [byte_of _ (by omega)] at Fkb
  refine V.appendA V.flat_byte (Facc) (V.from_byte Fkb Tryz.underlying31) elT31_31 rfl rfl rfl rfl rfl (by (simp only [List.length_cons, List.length_nil]; omega)) (by unfold maxLen; (simp only [List.length_cons, List.length_nil]; omega)) (by have := HG.size; omega) (by simp) ?_
  rintro a3 c3 w17 G18 s19 ⟨g3, q20, q21, Fnew⟩
  clear Facc
  clear Fkb
  have z22 := Go.RowKit.Below.size G18
  replace HG := HG.bl G18
  have F3 := Fnew; clear Fnew
  refine V.ru 1 ?_
  refine V.nt ?_
  refine V.ret ?_
  refine V.done rfl ?_
  have hn : bs ++ numB v.toNat = ks ++ [UInt8.ofNat u] := by rw [hks, numB_lt (by omega)]
  rw [hn]
  exact ⟨_, _, rfl, ⟨g3, by assumption, by omega, F3⟩, HG⟩


theorem numB_len (v : Nat) : ∀ m, v < 128 ^ m → 1 ≤ m → (numB v).length ≤ m := by
  induction v using Nat.strongRecOn with
  | _ v ih =>
    intro m h hm
    by_cases h1 : v < 128
    · rw [numB_lt h1]; simpa using hm
    · rw [numB_ge (by omega)]
      have hm2 : 2 ≤ m := by
        rcases Nat.lt_or_ge m 2 with h2 | h2
        · have : m = 1 := by omega
          subst this; omega
        · exact h2
      have : 128 ^ m = 128 * 128 ^ (m - 1) := by rw [show m = (m - 1) + 1 by omega, Nat.pow_succ, Nat.mul_comm]; rfl
      have := ih (v / 128) (by omega) (m - 1) (Nat.div_lt_of_lt_mul (by omega)) (by omega)
      rw [List.length_cons]; omega
theorem numB_len9 {v : Int} (h : v ≤ 9223372036854775807) : (numB v.toNat).length ≤ 9 := numB_len _ 9 (by omega) (by omega)
theorem numB_pos (v : Nat) : 0 < (numB v).length := by
  by_cases h1 : v < 128
  · rw [numB_lt h1]; simp
  · rw [numB_ge (by omega)]; simp
theorem dec_len : ∀ (cs : List UInt8) (i v : Nat), (dec cs i v).2 ≤ i + cs.length
  | [], i, v => by simp [dec]
  | c :: cs, i, v => by
    have := dec_len cs (i + 1) (v + c.toNat % 128 * 128 ^ i)
    simp only [dec, List.length_cons]
    repeat' split
    all_goals first | omega | (simp only; omega)
/-- a text's bytes -/
def textB (s : List UInt8) : List UInt8 := numB s.length ++ s

set_option maxHeartbeats 900000 in
set_option maxRecDepth 10000 in
theorem text_spec {w : World} {D : Nat → Prop} {c : Nat} {a : Option Addr} {bs : List UInt8} {s : ByteArray} (F : Bytes w D a c bs) (hD : ∀ k, D k → k < w.heap.size) (hl : bs.length ≤ 35184372088832) (hs : s.size ≤ 70368744177664) :
    Meets Tryz.prog 47 [.slice a bs.length c, .string s] w fun r w' => ∃ a' c', r = .slice a' (bs ++ textB s.data.toList).length c' ∧ V.New V.Cod.byte 5 w w' a' c' (bs ++ textB s.data.toList) ∧ Gr w w' := by
 have HG := V.Fr.refl [] w
 refine V.enter (n := 11) Tryz.func47 rfl rfl (by decide) rfl ?_
 refine V.sr ?_
 refine V.ru 1 ?_
 refine V.nt ?_
 refine V.sr ?_
 refine V.ru 3 ?_
 refine V.call (number_spec F hD (by omega) (by omega)) rfl rfl rfl ?_
 rintro _ w1 ⟨a1, c1, rfl, ⟨g1, hg1, hg2, F1⟩, G2⟩
 have z3 := V.Fr.size G2
 replace F := F.gr G2
 replace HG := HG.grow G2
 refine V.ru 1 ?_
 refine V.appendO (F1) (V.from_str Tryz.underlying9 s) elT31_9 rfl rfl rfl rfl rfl (by (rw [List.length_append]; have := numB_len9 (v := s.size) (by omega); have := V.length_data s; omega)) (by unfold maxLen; (rw [List.length_append]; have := numB_len9 (v := s.size) (by omega); have := V.length_data s; omega)) (by first | omega | exact fun h => h) ?_
 rintro g2 a2 c2 w4 G5 s6 horg2 hltg2 Fnew
 clear F1
 have z7 := V.Fr.size G5
 replace F := F.mv1 G5 (by first | omega | exact fun h => h | exact ⟨by omega, fun h => h⟩ | (intro h; first | (have := hD _ h; omega)) | (refine ⟨by omega, ?_⟩; intro h; first | (have := hD _ h; omega)))
 replace HG := HG.new1 G5 (by first | (refine Or.inr ?_; omega) | (refine Or.inl ?_; simp; done))
 have F2 := Fnew; clear Fnew
 refine V.ru 1 ?_
 refine V.nt ?_
 refine V.ret ?_
 refine V.done rfl ?_
 have hx : s.data.toList.length = s.size := V.length_data s
 have he : bs ++ textB s.data.toList = bs ++ numB (s.size : Int).toNat ++ s.data.toList := by simp [textB, hx]
 rw [he]
 exact ⟨_, _, rfl, ⟨g2, by omega, hltg2 (by intro h; have h1 := congrArg List.length h; rw [List.length_append, List.length_append, List.length_nil] at h1; have := numB_pos (s.size : Int).toNat; omega), F2⟩, HG⟩


def flagB (v : Bool) : List UInt8 := [if v then 1 else 0]

set_option maxHeartbeats 900000 in
set_option maxRecDepth 10000 in
theorem flag_spec {w : World} {D : Nat → Prop} {c : Nat} {a : Option Addr} {bs : List UInt8} {v : Bool} (F : Bytes w D a c bs) (hD : ∀ k, D k → k < w.heap.size) (hl : bs.length ≤ 70368744177664) :
    Meets Tryz.prog 46 [.slice a bs.length c, .bool v] w fun r w' => ∃ a' c', r = .slice a' (bs ++ flagB v).length c' ∧ V.New V.Cod.byte 5 w w' a' c' (bs ++ flagB v) ∧ Gr w w' := by
 have HG := V.Fr.refl [] w
 refine V.enter (n := 10) Tryz.func46 rfl rfl (by decide) rfl ?_
 refine V.sr ?_
 refine V.ru 1 ?_
 refine V.nt ?_
 refine V.sr ?_
 refine V.ru 1 ?_
 refine V.nt ?_
 refine V.seq ?_
 refine V.sr ?_
 refine V.ru 1 ?_
 refine V.nt ?_
 refine V.condT rfl (fun h2 => ?_) (fun h2 => ?_)
 ·
  try replace h2 := V.dec h2
  try simp only [V.mk] at h2
  refine V.region ?_
  refine V.ru 1 ?_
  refine V.nt ?_
  refine V.sr ?_
  refine V.ru 2 ?_
  refine V.call (number_spec F hD (by omega) (by omega)) rfl rfl rfl ?_
  rintro _ w1 ⟨a1, c1, rfl, FN, G2⟩
  have z3 := V.Fr.size G2
  replace F := F.gr G2
  replace HG := HG.grow G2
  refine V.ru 1 ?_
  refine V.nt ?_
  refine V.ret ?_
  refine V.done rfl ?_
  have he : flagB v = numB (if v then 1 else 0) := by cases v <;> (rw [numB_lt (by decide)]; rfl)
  subst_vars
  first | exact ⟨_, _, rfl, FN, HG⟩ | (simp only [he]; exact ⟨_, _, rfl, FN, HG⟩)
 ·
  try replace h2 := V.dec h2
  try simp only [V.mk] at h2
  refine V.skip ?_
  refine V.tN ?_
  refine V.sr ?_
  refine V.ru 2 ?_
  refine V.call (number_spec F hD (by omega) (by omega)) rfl rfl rfl ?_
  rintro _ w4 ⟨a1, c1, rfl, FN, G5⟩
  have z6 := V.Fr.size G5
  replace F := F.gr G5
  replace HG := HG.grow G5
  refine V.ru 1 ?_
  refine V.nt ?_
  refine V.ret ?_
  refine V.done rfl ?_
  have he : flagB v = numB (if v then 1 else 0) := by cases v <;> (rw [numB_lt (by decide)]; rfl)
  subst_vars
  first | exact ⟨_, _, rfl, FN, HG⟩ | (simp only [he]; exact ⟨_, _, rfl, FN, HG⟩)


/-- A reader at block k has these bytes before it. -/
structure Rdr (w : World) (k : Nat) (D : Nat → Prop) (bs : List UInt8) : Prop where
  ex : ∃ a c, Cells w k [.slice a bs.length c] 152 ∧ Bytes w D a c bs
theorem Rdr.gr {w w' : World} {k : Nat} {D : Nat → Prop} {bs : List UInt8} (h : Rdr w k D bs) (f : Gr w w') : Rdr w' k D bs := let ⟨a, c, h1, h2⟩ := h.ex; ⟨a, c, h1.gr f, h2.gr f⟩
theorem Rdr.mv1 {w w' : World} {k i : Nat} {D : Nat → Prop} {bs : List UInt8} (h : Rdr w k D bs) (f : Fr [i] w w') (hn : i ≠ k ∧ ¬ D i) : Rdr w' k D bs := let ⟨a, c, h1, h2⟩ := h.ex; ⟨a, c, h1.mv1 f hn.1, h2.mv1 f hn.2⟩
theorem Rdr.lt {w : World} {k : Nat} {D : Nat → Prop} {bs : List UInt8} (h : Rdr w k D bs) : k < w.heap.size := let ⟨_, _, h1, _⟩ := h.ex; h1.lt
def rdN (bs : List UInt8) (most : Int) : (Int × Int) × List UInt8 := if (dec bs 0 0).2 = 0 ∨ most < (dec bs 0 0).1 then ((0, 11), bs) else (((dec bs 0 0).1, 0), bs.drop (dec bs 0 0).2)
def rdF (bs : List UInt8) : (Bool × Int) × List UInt8 := ((decide ((rdN bs 1).1.1 = 1), (rdN bs 1).1.2), (rdN bs 1).2)
def rdT (bs : List UInt8) (most : Int) : (List UInt8 × Int) × List UInt8 :=
  if (dec bs 0 0).2 = 0 ∨ most < (dec bs 0 0).1 ∨ (bs.length : Int) - (dec bs 0 0).2 < (dec bs 0 0).1 then (([], 11), bs)
  else (((bs.drop (dec bs 0 0).2).take (dec bs 0 0).1, 0), bs.drop ((dec bs 0 0).2 + (dec bs 0 0).1))

set_option maxHeartbeats 900000 in
set_option maxRecDepth 10000 in
theorem open_spec {w : World} {D : Nat → Prop} {c : Nat} {a : Option Addr} {bs : List UInt8} (F : Bytes w D a c bs) (hD : ∀ k, D k → k < w.heap.size) (hl : bs.length ≤ 140737488355328) :
    Meets Tryz.prog 56 [.slice a bs.length c] w fun r w' => ∃ k, r = .pointer (some ⟨k, 0, none⟩) ∧ w.heap.size ≤ k ∧ Rdr w' k (fun j => w.heap.size ≤ j ∧ j < k) bs ∧ Gr w w' := by
 have HG := V.Fr.refl [] w
 refine V.enter (n := 7) Tryz.func56 rfl rfl (by decide) rfl ?_
 refine V.sr ?_
 refine V.ru 1 ?_
 refine V.nt ?_
 refine V.sr ?_
 refine V.ru 1 ?_
 refine V.call (clone_spec F hl) rfl rfl rfl ?_
 rintro _ w1 ⟨a1, c1, rfl, R1, G2⟩
 have z3 := V.Fr.size G2
 replace F := F.gr G2
 replace HG := HG.grow G2
 have F1 := R1.sl
 refine V.mkStruct T_ok zero152 rfl rfl rfl rfl rfl ?_
 refine V.box rfl rfl rfl rfl ?_
 rintro k1 w4 s6 s7 G5 Fk1
 have z8 := V.Fr.size G5
 replace F := F.gr G5
 replace F1 := F1.gr G5
 replace HG := HG.grow G5
 try simp only [V.cellsL, V.spliceL] at Fk1
 refine V.ru 1 ?_
 refine V.nt ?_
 refine V.ret ?_
 refine V.done rfl ?_
 exact ⟨k1, rfl, by omega, ⟨_, _, Fk1, F1.mono (fun j h => by omega)⟩, HG⟩

set_option maxHeartbeats 900000 in
set_option maxRecDepth 10000 in
theorem rnumber_spec {w : World} {D : Nat → Prop} {k : Nat} {bs : List UInt8} {most : Int} (R : Rdr w k D bs) (hk : ¬ D k) :
    Meets Tryz.prog 103 [.pointer (some ⟨k, 0, none⟩), .int .i64 most] w fun r w' => r = .tuple #[.int .i64 (rdN bs most).1.1, .int .i64 (rdN bs most).1.2] ∧ Rdr w' k D (rdN bs most).2 ∧ Fr [k] w w' ∧ w'.heap.size = w.heap.size := by
 obtain ⟨a, c, Fk, F⟩ := R.ex
 have hdl := dec_len bs 0 0
 have hlen := F.len63
 have HG := V.Fr.refl [k] w
 refine V.enter (n := 35) Tryz.func103 rfl rfl (by decide) rfl ?_
 refine V.sr ?_
 refine V.ru 2 ?_
 refine V.nt ?_
 refine V.seq ?_
 refine V.sr ?_
 refine V.ru 2 ?_
 refine V.nt ?_
 refine V.condN rfl (by rfl) ?_
 refine V.skip ?_
 refine V.tN ?_
 refine V.sr ?_
 refine V.ru 3 ?_
 refine V.loadO T_ok Fk rfl rfl rfl rfl rfl ?_
 refine V.call (next_spec F) rfl rfl rfl ?_
 rintro _ w_ ⟨rfl, rfl⟩
 refine V.ru 5 ?_
 refine V.nt ?_
 refine V.seq ?_
 refine V.sr ?_
 refine V.ru 3 ?_
 refine V.orG T_ok 3 2 20 rfl rfl rfl rfl rfl rfl rfl rfl ?_
 refine V.nt ?_
 refine V.condT rfl (fun h4 => ?_) (fun h4 => ?_)
 ·
  try replace h4 := V.dec h4
  try simp only [V.mk] at h4
  refine V.sr ?_
  refine V.ru 2 ?_
  refine V.nt ?_
  refine V.ret ?_
  refine V.tR ?_
  refine V.done rfl ?_
  have hc : (dec bs 0 0).2 = 0 ∨ most < (dec bs 0 0).1 := by omega
  rw [rdN, if_pos hc]
  exact ⟨rfl, ⟨_, _, Fk, F⟩, HG, rfl⟩
 ·
  try replace h4 := V.dec h4
  try simp only [V.mk] at h4
  refine V.skip ?_
  refine V.tN ?_
  refine V.sr ?_
  refine V.ru 4 ?_
  refine V.loadO T_ok Fk rfl rfl rfl rfl rfl ?_
  refine V.ru 1 ?_
  refine V.cut T_ok F rfl rfl sz5 rfl rfl rfl rfl rfl rfl rfl (by omega) (by omega) (by omega) (fun a2 c2 F2 _ => ?_)
  refine V.ru 2 ?_
  refine V.storeO Fk rfl rfl rfl rfl sz31 rfl rfl rfl rfl ?_
  rintro w2 G3 z5 Fs4
  clear Fk
  have z6 := V.Fr.size G3
  replace F := F.mv1 G3 (by first | omega | exact fun h => h | exact ⟨by omega, fun h => h⟩ | (intro h; first | (have := hD _ h; omega)) | (refine ⟨by omega, ?_⟩; intro h; first | (have := hD _ h; omega)))
  replace F2 := F2.mv1 G3 (by first | omega | exact fun h => h | exact ⟨by omega, fun h => h⟩ | (intro h; first | (have := hD _ h; omega)) | (refine ⟨by omega, ?_⟩; intro h; first | (have := hD _ h; omega)))
  replace HG := HG.new1 G3 (by first | (refine Or.inr ?_; omega) | (refine Or.inl ?_; simp; done))
  have Fk := Fs4; clear Fs4
  simp only [V.spliceL, V.cellsL] at Fk
  refine V.nt ?_
  refine V.sr ?_
  refine V.ru 3 ?_
  refine V.nt ?_
  refine V.ret ?_
  refine V.done rfl ?_
  have hc : ¬ ((dec bs 0 0).2 = 0 ∨ most < (dec bs 0 0).1) := by omega
  have he : (bs.drop ((dec bs 0 0).2 : Int).toNat).take ((bs.length : Int) - (dec bs 0 0).2).toNat = bs.drop (dec bs 0 0).2 := by
    rw [Int.toNat_natCast, List.take_of_length_le (by simp)]
  rw [he] at Fk F2
  rw [rdN, if_neg hc]
  exact ⟨rfl, ⟨_, _, Fk, F2⟩, HG, by assumption⟩

set_option maxHeartbeats 900000 in
set_option maxRecDepth 10000 in
theorem rflag_spec {w : World} {D : Nat → Prop} {k : Nat} {bs : List UInt8} (R : Rdr w k D bs) (hk : ¬ D k) :
    Meets Tryz.prog 59 [.pointer (some ⟨k, 0, none⟩)] w fun r w' => r = .tuple #[.bool (rdF bs).1.1, .int .i64 (rdF bs).1.2] ∧ Rdr w' k D (rdF bs).2 ∧ Fr [k] w w' ∧ w'.heap.size = w.heap.size := by
 have HG := V.Fr.refl [k] w
 refine V.enter (n := 14) Tryz.func59 rfl rfl (by decide) rfl ?_
 refine V.sr ?_
 refine V.ru 2 ?_
 refine V.nt ?_
 refine V.sr ?_
 refine V.ru 1 ?_
 refine V.call (rnumber_spec (most := 1) R hk) rfl rfl rfl ?_
 rintro _ w1 ⟨rfl, FR, G2, hsz⟩
 have z3 := V.Fr.size G2
 replace HG := HG.new1 G2 (by first | (refine Or.inr ?_; omega) | (refine Or.inl ?_; simp; done))
 refine V.ru 5 ?_
 refine V.nt ?_
 refine V.sr ?_
 refine V.ru 5 ?_
 refine V.nt ?_
 refine V.ret ?_
 refine V.done rfl ?_
 exact ⟨rfl, FR, HG, by assumption⟩

set_option maxHeartbeats 900000 in
set_option maxRecDepth 10000 in
theorem rend_spec {w : World} {D : Nat → Prop} {k : Nat} {bs : List UInt8} (R : Rdr w k D bs) :
    Meets Tryz.prog 67 [.pointer (some ⟨k, 0, none⟩)] w fun r w' => r = .int .i64 (if bs = [] then 0 else 11) ∧ w = w' := by
 obtain ⟨a, c, Fk, F⟩ := R.ex
 refine V.enter (n := 13) Tryz.func67 rfl rfl (by decide) rfl ?_
 refine V.sr ?_
 refine V.ru 1 ?_
 refine V.nt ?_
 refine V.seq ?_
 refine V.block ?_
 refine V.sr ?_
 refine V.ru 3 ?_
 refine V.nt ?_
 refine V.condN rfl (by rfl) ?_
 refine V.sr ?_
 refine V.ru 3 ?_
 refine V.loadO T_ok Fk rfl rfl rfl rfl rfl ?_
 refine V.ru 3 ?_
 refine V.nt ?_
 refine V.condT rfl (fun h3 => ?_) (fun h3 => ?_)
 ·
  try replace h3 := V.dec h3
  try simp only [V.mk] at h3
  refine V.sr ?_
  refine V.ru 1 ?_
  refine V.nt ?_
  refine V.ret ?_
  refine V.bR ?_
  refine V.tR ?_
  refine V.done rfl ?_
  have : bs ≠ [] := by rintro rfl; simp at h3
  rw [if_neg this]; exact ⟨rfl, rfl⟩
 ·
  try replace h3 := V.dec h3
  try simp only [V.mk] at h3
  refine V.skip ?_
  refine V.bN ?_
  refine V.tN ?_
  refine V.sr ?_
  refine V.ru 1 ?_
  refine V.nt ?_
  refine V.ret ?_
  refine V.done rfl ?_
  have : bs = [] := List.length_eq_zero_iff.1 (by omega)
  rw [if_pos this]; exact ⟨rfl, rfl⟩

set_option maxHeartbeats 900000 in
set_option maxRecDepth 10000 in
theorem rtext_spec {w : World} {D : Nat → Prop} {k : Nat} {bs : List UInt8} {most : Int} (R : Rdr w k D bs) (hk : ¬ D k) :
    Meets Tryz.prog 106 [.pointer (some ⟨k, 0, none⟩), .int .i64 most] w fun r w' => r = .tuple #[.string (S (rdT bs most).1.1), .int .i64 (rdT bs most).1.2] ∧ Rdr w' k D (rdT bs most).2 ∧ Fr [k] w w' ∧ w'.heap.size = w.heap.size := by
 obtain ⟨a, c, Fk, F⟩ := R.ex
 have hdl := dec_len bs 0 0
 have hlen := F.len63
 have HG := V.Fr.refl [k] w
 refine V.enter (n := 59) Tryz.func106 rfl rfl (by decide) rfl ?_
 refine V.sr ?_
 refine V.ru 2 ?_
 refine V.nt ?_
 refine V.seq ?_
 refine V.sr ?_
 refine V.ru 2 ?_
 refine V.nt ?_
 refine V.condN rfl (by rfl) ?_
 refine V.skip ?_
 refine V.tN ?_
 refine V.sr ?_
 refine V.ru 3 ?_
 refine V.loadO T_ok Fk rfl rfl rfl rfl rfl ?_
 refine V.call (next_spec F) rfl rfl rfl ?_
 rintro _ w_ ⟨rfl, rfl⟩
 refine V.ru 5 ?_
 refine V.nt ?_
 refine V.seq ?_
 refine V.sr ?_
 refine V.ru 3 ?_
 refine V.orG T_ok 3 2 21 rfl rfl rfl rfl rfl rfl rfl rfl ?_
 refine V.ru 1 ?_
 refine V.split (j := 7) (t := 26) rfl rfl (fun g4_7 => ?_) (fun g4_7 => ?_)
 ·
  try replace g4_7 := V.dec g4_7
  try simp only [V.mk] at g4_7
  refine V.ru 10 ?_
  refine V.nt ?_
  refine V.condY rfl rfl ?_
  refine V.sr ?_
  refine V.ru 2 ?_
  refine V.nt ?_
  refine V.ret ?_
  refine V.tR ?_
  refine V.done rfl ?_
  have hc : (dec bs 0 0).2 = 0 ∨ most < (dec bs 0 0).1 ∨ (bs.length : Int) - (dec bs 0 0).2 < (dec bs 0 0).1 := by omega
  rw [rdT, if_pos hc]
  exact ⟨rfl, ⟨_, _, Fk, F⟩, HG, rfl⟩
 ·
  try replace g4_7 := V.dec g4_7
  try simp only [V.mk] at g4_7
  refine V.ru 4 ?_
  refine V.yes rfl rfl rfl ?_
  refine V.loadO T_ok Fk rfl rfl rfl rfl rfl ?_
  refine V.ru 2 ?_
  refine V.yes rfl rfl rfl ?_
  first | refine V.subN rfl rfl rfl rfl rfl (by omega) (by omega) ?_ | refine V.run T_ok 1 rfl ?_
  refine V.ru 2 ?_
  refine V.nt ?_
  refine V.condT rfl (fun h4 => ?_) (fun h4 => ?_)
  ·
   try replace h4 := V.dec h4
   try simp only [V.mk] at h4
   refine V.sr ?_
   refine V.ru 2 ?_
   refine V.nt ?_
   refine V.ret ?_
   refine V.tR ?_
   refine V.done rfl ?_
   have hc : (dec bs 0 0).2 = 0 ∨ most < (dec bs 0 0).1 ∨ (bs.length : Int) - (dec bs 0 0).2 < (dec bs 0 0).1 := by omega
   rw [rdT, if_pos hc]
   exact ⟨rfl, ⟨_, _, Fk, F⟩, HG, rfl⟩
  ·
   try replace h4 := V.dec h4
   try simp only [V.mk] at h4
   refine V.skip ?_
   refine V.tN ?_
   refine V.sr ?_
   refine V.ru 3 ?_
   refine V.loadO T_ok Fk rfl rfl rfl rfl rfl ?_
   refine V.ru 3 ?_
   first | refine V.addN rfl rfl rfl rfl rfl (by omega) (by omega) ?_ | refine V.run T_ok 1 rfl ?_
   refine V.cut T_ok F rfl rfl sz5 rfl rfl rfl rfl rfl rfl rfl (by omega) (by omega) (by omega) (fun a2 c2 F2 _ => ?_)
   refine V.toStr F2 Tryz.underlying31 Tryz.underlying5 Tryz.underlying9 rfl rfl rfl rfl ?_
   refine V.ru 1 ?_
   refine V.nt ?_
   refine V.sr ?_
   refine V.ru 4 ?_
   refine V.loadO T_ok Fk rfl rfl rfl rfl rfl ?_
   refine V.ru 2 ?_
   first | refine V.addN rfl rfl rfl rfl rfl (by omega) (by omega) ?_ | refine V.run T_ok 1 rfl ?_
   refine V.cut T_ok F rfl rfl sz5 rfl rfl rfl rfl rfl rfl rfl (by omega) (by omega) (by omega) (fun a3 c3 F3 _ => ?_)
   refine V.ru 2 ?_
   refine V.storeO Fk rfl rfl rfl rfl sz31 rfl rfl rfl rfl ?_
   rintro w2 G3 z5 Fs4
   clear Fk
   have z6 := V.Fr.size G3
   replace F := F.mv1 G3 (by first | omega | exact fun h => h | exact ⟨by omega, fun h => h⟩ | (intro h; first | (have := hD _ h; omega)) | (refine ⟨by omega, ?_⟩; intro h; first | (have := hD _ h; omega)))
   replace F2 := F2.mv1 G3 (by first | omega | exact fun h => h | exact ⟨by omega, fun h => h⟩ | (intro h; first | (have := hD _ h; omega)) | (refine ⟨by omega, ?_⟩; intro h; first | (have := hD _ h; omega)))
   replace F3 := F3.mv1 G3 (by first | omega | exact fun h => h | exact ⟨by omega, fun h => h⟩ | (intro h; first | (have := hD _ h; omega)) | (refine ⟨by omega, ?_⟩; intro h; first | (have := hD _ h; omega)))
   replace HG := HG.new1 G3 (by first | (refine Or.inr ?_; omega) | (refine Or.inl ?_; simp; done))
   have Fk := Fs4; clear Fs4
   simp only [V.spliceL, V.cellsL] at Fk
   refine V.nt ?_
   refine V.sr ?_
   refine V.ru 3 ?_
   refine V.nt ?_
   refine V.ret ?_
   refine V.done rfl ?_
   have hc : ¬ ((dec bs 0 0).2 = 0 ∨ most < (dec bs 0 0).1 ∨ (bs.length : Int) - (dec bs 0 0).2 < (dec bs 0 0).1) := by omega
   have e1 : (bs.drop ((dec bs 0 0).2 : Int).toNat).take (((dec bs 0 0).2 : Int) + (dec bs 0 0).1 - (dec bs 0 0).2).toNat = (bs.drop (dec bs 0 0).2).take (dec bs 0 0).1 := by
     rw [Int.toNat_natCast]; congr 1; omega
   have e2 : (bs.drop (((dec bs 0 0).2 : Int) + (dec bs 0 0).1).toNat).take ((bs.length : Int) - (((dec bs 0 0).2 : Int) + (dec bs 0 0).1)).toNat = bs.drop ((dec bs 0 0).2 + (dec bs 0 0).1) := by
     rw [show (((dec bs 0 0).2 : Int) + (dec bs 0 0).1).toNat = (dec bs 0 0).2 + (dec bs 0 0).1 by omega, List.take_of_length_le (by simp; omega)]
   rw [e2] at Fk F3
   simp only [e1]
   rw [rdT, if_neg hc]
   exact ⟨rfl, ⟨_, _, Fk, F3⟩, HG, by assumption⟩

/-! ### The document's answer: numbers, flags, texts -/
/-- The reference's reader at block k: bytes, where it is, whether something was wrong. -/
structure Ref (w : World) (k : Nat) (D : Nat → Prop) (bs : List UInt8) (i : Nat) (bad : Bool) : Prop where
  ex : ∃ a c, Cells w k [.slice a bs.length c, .int .i64 i, .bool bad] 128 ∧ Bytes w D a c bs
  le : i ≤ bs.length
theorem Ref.gr {w w' : World} {k i : Nat} {D : Nat → Prop} {bs : List UInt8} {bad : Bool} (h : Ref w k D bs i bad) (f : Gr w w') : Ref w' k D bs i bad := let ⟨a, c, h1, h2⟩ := h.ex; ⟨⟨a, c, h1.gr f, h2.gr f⟩, h.le⟩
theorem Ref.mv1 {w w' : World} {k i j : Nat} {D : Nat → Prop} {bs : List UInt8} {bad : Bool} (h : Ref w k D bs i bad) (f : Fr [j] w w') (hn : j ≠ k ∧ ¬ D j) : Ref w' k D bs i bad := let ⟨a, c, h1, h2⟩ := h.ex; ⟨⟨a, c, h1.mv1 f hn.1, h2.mv1 f hn.2⟩, h.le⟩
theorem Ref.lt {w : World} {k i : Nat} {D : Nat → Prop} {bs : List UInt8} {bad : Bool} (h : Ref w k D bs i bad) : k < w.heap.size := let ⟨_, _, h1, _⟩ := h.ex; h1.lt

theorem dec_cons {c : UInt8} {cs : List UInt8} {i v : Nat} (h9 : i < 9) : dec (c :: cs) i v = if c.toNat < 128 then (if c.toNat = 0 ∧ 0 < i then (0, 0) else (v + c.toNat % 128 * 128 ^ i, i + 1)) else dec cs (i + 1) (v + c.toNat % 128 * 128 ^ i) := by
  rw [dec, if_neg (by omega)]

theorem numB_len_lt {u : Nat} (h : u < 128) : (numB u).length = 1 := by rw [numB_lt h]; rfl
theorem textB_len (s : ByteArray) : (textB s.data.toList).length = (numB s.size).length + s.size := by rw [textB, List.length_append, V.length_data]
theorem dec_numB (v : Nat) : ∀ (i acc : Nat) (rest : List UInt8), v < 128 ^ (9 - i) → i < 9 → (i = 0 ∨ 0 < v) → dec (numB v ++ rest) i acc = (acc + v * 128 ^ i, i + (numB v).length) := by
  induction v using Nat.strongRecOn with
  | _ v ih =>
    intro i acc rest h h9 h0
    by_cases h1 : v < 128
    · rw [numB_lt h1]
      show dec (UInt8.ofNat v :: rest) i acc = _
      have hc : (UInt8.ofNat v).toNat = v := by simp; omega
      rw [dec_cons h9, hc, if_pos h1, if_neg (by omega), Nat.mod_eq_of_lt h1]; rfl
    · rw [numB_ge (by omega)]
      show dec (UInt8.ofNat (128 + v % 128) :: (numB (v / 128) ++ rest)) i acc = _
      have hc : (UInt8.ofNat (128 + v % 128)).toNat = 128 + v % 128 := by simp; omega
      have h8 : i + 1 < 9 := by
        rcases Nat.lt_or_ge (i + 1) 9 with h2 | h2
        · exact h2
        · have : i = 8 := by omega
          subst this
          simp at h; omega
      have hp : 128 ^ (9 - i) = 128 * 128 ^ (9 - (i + 1)) := by
        rw [show 9 - i = (9 - (i + 1)) + 1 by omega, Nat.pow_succ, Nat.mul_comm]
      rw [dec_cons h9, hc, if_neg (by omega), ih (v / 128) (by omega) (i + 1) _ rest (Nat.div_lt_of_lt_mul (by omega)) h8 (.inr (by omega))]
      refine Prod.ext ?_ ?_
      · have e1 : (128 + v % 128) % 128 = v % 128 := by omega
        have e2 : 128 ^ (i + 1) = 128 * 128 ^ i := by rw [Nat.pow_succ, Nat.mul_comm]
        have e3 : v * 128 ^ i = v % 128 * 128 ^ i + v / 128 * (128 * 128 ^ i) := by
          rw [← Nat.mul_assoc, ← Nat.add_mul]; congr 1; omega
        simp only [e1, e2, e3]; omega
      · simp only [List.length_cons]; omega
theorem dec_num0 {v : Nat} (h : v ≤ 9223372036854775807) (rest : List UInt8) : dec (numB v ++ rest) 0 0 = (v, (numB v).length) := by
  rw [dec_numB v 0 0 rest (by omega) (by omega) (.inl rfl)]; simp
theorem rdN_num {v : Nat} {most : Int} (h : v ≤ 9223372036854775807) (hm : (v : Int) ≤ most) (r : List UInt8) : rdN (numB v ++ r) most = (((v : Int), 0), r) := by
  have hd := dec_num0 h r
  have hp := numB_pos v
  have hc : ¬ ((dec (numB v ++ r) 0 0).2 = 0 ∨ most < (dec (numB v ++ r) 0 0).1) := by rw [hd]; simp only; omega
  rw [rdN, if_neg hc, hd]
  simp only [List.drop_left]
theorem flagB_num (f : Bool) : flagB f = numB (if f then 1 else 0) := by cases f <;> (rw [numB_lt (by decide)]; rfl)
theorem rdF_flag (f : Bool) (r : List UInt8) : rdF (flagB f ++ r) = ((f, 0), r) := by
  rw [rdF, flagB_num, rdN_num (by cases f <;> simp) (by cases f <;> simp)]
  cases f <;> rfl
theorem rdT_text {s r : List UInt8} {most : Int} (h : s.length ≤ 9223372036854775807) (hm : (s.length : Int) ≤ most) : rdT (textB s ++ r) most = ((s, 0), r) := by
  have e : textB s ++ r = numB s.length ++ (s ++ r) := by rw [textB, List.append_assoc]
  have hd := dec_num0 h (s ++ r)
  have hp := numB_pos s.length
  have hl : (numB s.length ++ (s ++ r)).length = (numB s.length).length + s.length + r.length := by simp; omega
  have hc : ¬ ((dec (numB s.length ++ (s ++ r)) 0 0).2 = 0 ∨ most < (dec (numB s.length ++ (s ++ r)) 0 0).1 ∨ ((numB s.length ++ (s ++ r)).length : Int) - (dec (numB s.length ++ (s ++ r)) 0 0).2 < (dec (numB s.length ++ (s ++ r)) 0 0).1) := by
    rw [hd, hl]; simp only; omega
  rw [e, rdT, if_neg hc, hd]
  simp only [List.drop_left, List.take_left, ← List.drop_drop]



theorem dec_sound : ∀ (cs : List UInt8) (i acc : Nat), (dec cs i acc).2 ≠ 0 → ∃ v r, cs = numB v ++ r ∧ dec cs i acc = (acc + v * 128 ^ i, i + (numB v).length) ∧ v < 128 ^ (9 - i) ∧ (i = 0 ∨ 0 < v)
  | [], i, acc, h => by simp [dec] at h
  | c :: cs, i, acc, h => by
    by_cases h9 : 9 ≤ i
    · simp [dec, h9] at h
    · have hc := c.toNat_lt
      rw [dec_cons (by omega)] at h ⊢
      by_cases h1 : c.toNat < 128
      · rw [if_pos h1] at h ⊢
        by_cases h0 : c.toNat = 0 ∧ 0 < i
        · rw [if_pos h0] at h; simp at h
        · rw [if_neg h0]
          refine ⟨c.toNat, cs, by rw [numB_lt h1]; simp, by rw [numB_len_lt h1, Nat.mod_eq_of_lt h1], ?_, by omega⟩
          have : 128 ^ (9 - i) = 128 * 128 ^ (9 - (i + 1)) := by rw [show 9 - i = (9 - (i + 1)) + 1 by omega, Nat.pow_succ, Nat.mul_comm]
          have := Nat.pow_pos (n := 9 - (i + 1)) (show 0 < 128 by decide)
          omega
      · rw [if_neg h1] at h ⊢
        obtain ⟨v, r, hcs, hd, hv, hz⟩ := dec_sound cs (i + 1) _ h
        have hp : 128 ^ (9 - i) = 128 * 128 ^ (9 - (i + 1)) := by rw [show 9 - i = (9 - (i + 1)) + 1 by omega, Nat.pow_succ, Nat.mul_comm]
        have e1 : (c.toNat % 128 + 128 * v) % 128 = c.toNat % 128 := by omega
        have e2 : (c.toNat % 128 + 128 * v) / 128 = v := by omega
        have e3 : 128 + c.toNat % 128 = c.toNat := by omega
        have hn : numB (c.toNat % 128 + 128 * v) = c :: numB v := by
          rw [numB_ge (by omega), e1, e2, e3]; simp
        refine ⟨c.toNat % 128 + 128 * v, r, by rw [hn, hcs]; rfl, ?_, by omega, by omega⟩
        rw [hd, hn]
        refine Prod.ext ?_ ?_
        · have e4 : 128 ^ (i + 1) = 128 * 128 ^ i := by rw [Nat.pow_succ, Nat.mul_comm]
          have e5 : (c.toNat % 128 + 128 * v) * 128 ^ i = c.toNat % 128 * 128 ^ i + v * (128 * 128 ^ i) := by
            rw [Nat.add_mul]; congr 1; rw [Nat.mul_comm 128 v, Nat.mul_assoc]
          simp only [e4, e5]; omega
        · simp only [List.length_cons]; omega
theorem rdN_ok {cs : List UInt8} {most : Int} (h : (rdN cs most).1.2 = 0) : ∃ (v : Nat) (r : List UInt8), cs = numB v ++ r ∧ v ≤ 9223372036854775807 ∧ (v : Int) ≤ most ∧ rdN cs most = (((v : Int), 0), r) := by
  have hc : ¬ ((dec cs 0 0).2 = 0 ∨ most < (dec cs 0 0).1) := by
    intro hc; rw [rdN, if_pos hc] at h; simp at h
  obtain ⟨v, r, hcs, hd, hv, _⟩ := dec_sound cs 0 0 (fun h0 => hc (.inl h0))
  have hm : (v : Int) ≤ most := by rw [hd] at hc; simp at hc; omega
  refine ⟨v, r, hcs, by omega, hm, ?_⟩
  rw [hcs]; exact rdN_num (by omega) hm r
theorem rdT_ok {cs : List UInt8} {most : Int} (h : (rdT cs most).1.2 = 0) : ∃ (s r : List UInt8), cs = textB s ++ r ∧ s.length ≤ 9223372036854775807 ∧ (s.length : Int) ≤ most ∧ rdT cs most = ((s, 0), r) := by
  have hc : ¬ ((dec cs 0 0).2 = 0 ∨ most < (dec cs 0 0).1 ∨ (cs.length : Int) - (dec cs 0 0).2 < (dec cs 0 0).1) := by
    intro hc; rw [rdT, if_pos hc] at h; simp at h
  obtain ⟨v, r, hcs, hd, hv, _⟩ := dec_sound cs 0 0 (fun h0 => hc (.inl h0))
  rw [hd] at hc
  simp only [Nat.zero_add, Nat.pow_zero, Nat.mul_one, not_or] at hc
  obtain ⟨_, h1, h2⟩ := hc
  have hl := congrArg List.length hcs
  rw [List.length_append] at hl
  have hlr : v ≤ r.length := by omega
  have ht : (r.take v).length = v := by rw [List.length_take]; omega
  have e : cs = textB (r.take v) ++ r.drop v := by rw [textB, ht, List.append_assoc, List.take_append_drop, hcs]
  refine ⟨r.take v, r.drop v, e, by omega, by omega, ?_⟩
  rw [e]; exact rdT_text (by omega) (by omega)
end Go.Proofs.YtmmgmkklakkooaaGreat
