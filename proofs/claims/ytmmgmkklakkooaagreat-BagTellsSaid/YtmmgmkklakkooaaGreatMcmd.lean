/- Proved here: walks: what functions of this seat's program return and what they leave of memory, each as a contract. Conditions: stated at each theorem. -/
import Derived.Shelf.Strings.FuncGrows
import Derived.Laws.RangeString
import Derived.Test.YtmmgmkklakkooaaGreatMrecg
namespace Go.Proofs.YtmmgmkklakkooaaGreat
set_option linter.unusedVariables false
set_option linter.unusedSimpArgs false
open Go
open V (Bytes Meets Env Sl Own Gr Fr Cells S)
def laysIxf_ren : Go.Shelf.Ren := ⟨fun | 315 => 171 | n => n, fun | 9 => 9 | 40 => 210 | 4 => 4 | 3 => 3 | 0 => 0 | 21 => 21 | n => n, fun | n => n⟩
theorem laysIxf : Go.Proofs.Lays.n315 Tryz.prog laysIxf_ren where
  mixed := by kernel_rfl
  f315 := Tryz.func171.trans (congrArg some (by kernel_rfl))
  t0 := Tryz.underlying0
  a0 := Tryz.isAgg0
  z0 := Tryz.sizeOf0
  v0 := Tryz.zeroValue0
  t3 := Tryz.underlying3
  a3 := Tryz.isAgg3
  z3 := Tryz.sizeOf3
  v3 := Tryz.zeroValue3
  t4 := Tryz.underlying4
  a4 := Tryz.isAgg4
  z4 := Tryz.sizeOf4
  v4 := Tryz.zeroValue4
  t9 := Tryz.underlying9
  a9 := Tryz.isAgg9
  z9 := Tryz.sizeOf9
  v9 := Tryz.zeroValue9
  t21 := Tryz.underlying21
  a21 := Tryz.isAgg21
  z21 := Tryz.sizeOf21
  v21 := Tryz.zeroValue21
  t40 := Tryz.underlying210
  a40 := Tryz.isAgg210
  z40 := Tryz.sizeOf210
  v40 := Tryz.zeroValue210

/-- a byte's rune that a value must not have -/
def pV (r : Nat) : Bool := decide (r < 33) || decide (126 < r)
def okB (l : List UInt8) : Bool := l.all fun c => !pV c.toNat
theorem dec_hi (s : ByteArray) (i : Nat) (h : 128 ≤ (s.get! i).toNat) : 128 ≤ (Go.Utf8.decode s i).1 := by
  unfold Go.Utf8.decode
  simp only [Nat.add_zero]
  rw [if_neg (by omega)]
  split
  · split <;> simp [Go.Utf8.runeError]; assumption
  · split
    · split
      · rename_i h2; simp at h2; show 128 ≤ _; omega
      · simp [Go.Utf8.runeError]
    · split
      · split
        · rename_i h2; simp at h2; show 128 ≤ _; omega
        · simp [Go.Utf8.runeError]
      · simp [Go.Utf8.runeError]
theorem toL_len (s : ByteArray) : s.data.toList.length = s.size := by rw [Array.length_toList]; rfl
theorem ixf_all (s : ByteArray) : ∀ (f pos : Nat), s.size ≤ pos + f → (0 ≤ Go.Lib.idxFuncFrom pV true s f pos ↔ okB (s.data.toList.drop pos) = false)
  | 0, pos, h => by
    have hs := toL_len s
    rw [Go.Lib.idxFuncFrom_end _ _ _ _ _ (by omega), List.drop_eq_nil_of_le (by omega)]
    simp [okB]
  | f + 1, pos, h => by
    have hs := toL_len s
    unfold Go.Lib.idxFuncFrom
    by_cases hp : pos < s.size
    · rw [if_pos hp]
      have hl : pos < s.data.toList.length := by omega
      rw [List.drop_eq_getElem_cons hl]
      have hb : s.data.toList[pos] = s[pos]'hp := by rw [Array.getElem_toList]; rfl
      have ih := ixf_all s f (pos + 1) (by omega)
      by_cases ha : (s[pos]'hp).toNat < 128
      · rw [decode_ascii s pos hp ha]
        dsimp only
        by_cases hv : pV (s[pos]'hp).toNat = true
        · rw [if_pos hv, hb]; simp [okB, hv]
        · rw [if_neg hv, ih, hb]
          simp only [Bool.not_eq_true] at hv
          simp [okB, hv]
      · have hg : s.get! pos = s[pos]'hp := by
          show s.data[pos]! = s.data[pos]'hp
          rw [getElem!_pos s.data pos hp]
        have hd := dec_hi s pos (by rw [hg]; omega)
        have hq : pV (Go.Utf8.decode s pos).1 = true := by unfold pV; rw [Bool.or_eq_true, decide_eq_true_eq, decide_eq_true_eq]; exact .inr (by omega)
        rw [if_pos hq, hb]
        have hv : pV (s[pos]'hp).toNat = true := by unfold pV; rw [Bool.or_eq_true, decide_eq_true_eq, decide_eq_true_eq]; exact .inr (by omega)
        simp [okB, hv]
    · rw [if_neg hp, List.drop_eq_nil_of_le (by omega)]
      simp [okB]

set_option maxHeartbeats 900000 in
set_option maxRecDepth 10000 in
theorem cnumber_spec {w : World}  {n : Int}  :
    Meets Tryz.prog 158 [.int .i64 n] w fun r w' => r = .bool (decide (0 ≤ n ∧ n ≤ 1099511627776)) ∧ w = w' := by
 refine V.enter (n := 9) Tryz.func158 rfl rfl (by decide) rfl ?_
 refine V.sr ?_
 refine V.ru 1 ?_
 refine V.nt ?_
 refine V.sr ?_
 refine V.ru 3 ?_
 refine V.andG T_ok 2 2 5 rfl rfl rfl rfl rfl rfl rfl rfl ?_
 refine V.ru 1 ?_
 refine V.nt ?_
 refine V.ret ?_
 refine V.done rfl ?_
 exact ⟨(congrArg Value.bool (by first | rfl | grind)), rfl⟩

set_option maxHeartbeats 900000 in
set_option maxRecDepth 10000 in
theorem pv_spec {w : World}  {q : Int} (h0 : 0 ≤ q) :
    Meets Tryz.prog 169 [.int .i32 q] w fun r w' => r = .bool (pV q.toNat) ∧ w = w' := by
 refine V.enter (n := 9) Tryz.func169 rfl rfl (by decide) rfl ?_
 refine V.sr ?_
 refine V.ru 1 ?_
 refine V.nt ?_
 refine V.sr ?_
 refine V.ru 3 ?_
 refine V.orG T_ok 2 2 5 rfl rfl rfl rfl rfl rfl rfl rfl ?_
 refine V.ru 1 ?_
 refine V.nt ?_
 refine V.ret ?_
 refine V.done rfl ?_
 exact ⟨(congrArg Value.bool (by first | rfl | (unfold pV; grind))), rfl⟩


theorem ixf_spec {w : World} {s : ByteArray} : Meets Tryz.prog 171 [.string s, .func (.func 169) #[] #[], .bool true] w fun r w' => r = .int .i64 (Go.Lib.idxFunc pV true s) ∧ Gr w w' :=
  ⟨V.callable Tryz.func171 rfl (by decide), (Any.strings_indexFunc_grows laysIxf 169 #[] (fun a w => enters_of Tryz.func169 (by kernel_rfl) rfl a w) pV true s w (fun W x hx hb => by
    have h := (pv_spec (w := W) (q := (x : Int)) (by omega)).2
    refine h.mono ?_
    rintro e w' ⟨v, rfl, rfl, rfl⟩
    exact ⟨by simp, Go.RowKit.Below.refl _ _⟩)).mono (by rintro e w' ⟨rfl, hb⟩; exact ⟨_, rfl, rfl, ⟨hb.os, hb.tape, hb.output, hb.size, fun k hk _ => hb.block k hk⟩⟩)⟩

set_option maxHeartbeats 900000 in
set_option maxRecDepth 10000 in
theorem ixf2_spec {w : World}  {s : ByteArray}  :
    Meets Tryz.prog 170 [.string s, .func (.func 169) #[] #[]] w fun r w' => r = .int .i64 (Go.Lib.idxFunc pV true s) ∧ Gr w w' := by
 have HG := V.Fr.refl [] w
 refine V.enter (n := 8) Tryz.func170 rfl rfl (by decide) rfl ?_
 refine V.sr ?_
 refine V.ru 1 ?_
 refine V.nt ?_
 refine V.sr ?_
 refine V.ru 2 ?_
 refine V.call (ixf_spec (s := s)) rfl rfl rfl ?_
 rintro _ w1 ⟨rfl, G2⟩
 have z3 := V.Fr.size G2
 refine V.ru 1 ?_
 refine V.nt ?_
 refine V.ret ?_
 refine V.done rfl ?_
 replace HG := HG.grow G2
 exact ⟨(by first | rfl | simp only [List.length_set]), HG⟩

set_option maxHeartbeats 900000 in
set_option maxRecDepth 10000 in
theorem cf_spec {w : World}  {s : ByteArray}  :
    Meets Tryz.prog 164 [.string s, .func (.func 169) #[] #[]] w fun r w' => r = .bool (!okB s.data.toList) ∧ Gr w w' := by
 have HG := V.Fr.refl [] w
 refine V.enter (n := 9) Tryz.func164 rfl rfl (by decide) rfl ?_
 refine V.sr ?_
 refine V.ru 1 ?_
 refine V.nt ?_
 refine V.sr ?_
 refine V.ru 2 ?_
 refine V.call (ixf2_spec (s := s)) rfl rfl rfl ?_
 rintro _ w1 ⟨rfl, G2⟩
 have z3 := V.Fr.size G2
 refine V.ru 2 ?_
 refine V.nt ?_
 refine V.ret ?_
 refine V.done rfl ?_
 replace HG := HG.grow G2
 exact ⟨(congrArg Value.bool (by first | rfl | (have h := ixf_all s s.size 0 (by omega); rw [List.drop_zero] at h; rw [Bool.eq_iff_iff]; simp; exact h))), HG⟩

set_option maxHeartbeats 900000 in
set_option maxRecDepth 10000 in
theorem valued_spec {w : World}  {v : ByteArray} {gone : Bool}  :
    Meets Tryz.prog 160 [.string v, .bool gone] w fun r w' => r = .bool (okB v.data.toList && decide (v.size ≤ 16) && (!gone || decide (v = S []))) ∧ Gr w w' := by
 have HG := V.Fr.refl [] w
 refine V.enter (n := 23) Tryz.func160 rfl rfl (by decide) rfl ?_
 refine V.sr ?_
 refine V.ru 1 ?_
 refine V.nt ?_
 refine V.sr ?_
 refine V.ru 1 ?_
 refine V.call (cf_spec (s := v)) rfl rfl rfl ?_
 rintro _ w1 ⟨rfl, G2⟩
 have z3 := V.Fr.size G2
 refine V.ru 1 ?_
 refine V.nt ?_
 refine V.sr ?_
 refine V.ru 3 ?_
 refine V.andG T_ok 3 2 10 rfl rfl rfl rfl rfl rfl rfl rfl ?_
 refine V.ru 1 ?_
 refine V.split (j := 7) (t := 15) rfl rfl (fun g2_7 => ?_) (fun g2_7 => ?_)
 ·
  try replace g2_7 := V.dec g2_7
  try simp only [V.mk] at g2_7
  refine V.ru 3 ?_
  refine V.split (j := 10) (t := 18) rfl rfl (fun g2_10 => ?_) (fun g2_10 => ?_)
  ·
   try replace g2_10 := V.dec g2_10
   try simp only [V.mk] at g2_10
   refine V.ru 5 ?_
   refine V.nt ?_
   refine V.ret ?_
   refine V.done rfl ?_
   replace HG := HG.grow G2
   exact ⟨(congrArg Value.bool (by first | rfl | ((have e1 : (⟨#[]⟩ : ByteArray) = S [] := rfl); (try simp only [e1] at *); grind))), HG⟩
  ·
   try replace g2_10 := V.dec g2_10
   try simp only [V.mk] at g2_10
   refine V.ru 5 ?_
   refine V.nt ?_
   refine V.ret ?_
   refine V.done rfl ?_
   replace HG := HG.grow G2
   exact ⟨(congrArg Value.bool (by first | rfl | ((have e1 : (⟨#[]⟩ : ByteArray) = S [] := rfl); (try simp only [e1] at *); grind))), HG⟩
 ·
  try replace g2_7 := V.dec g2_7
  try simp only [V.mk] at g2_7
  refine V.ru 8 ?_
  refine V.nt ?_
  refine V.ret ?_
  refine V.done rfl ?_
  replace HG := HG.grow G2
  exact ⟨(congrArg Value.bool (by first | rfl | ((have e1 : (⟨#[]⟩ : ByteArray) = S [] := rfl); (try simp only [e1] at *); grind))), HG⟩

end Go.Proofs.YtmmgmkklakkooaaGreat
