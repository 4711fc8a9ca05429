/- Proved here: walks: what functions of this seat's program return and what they leave of memory, each as a contract. Conditions: stated at each theorem. -/
import Derived.Test.YtbfaobkahgadaaaM0
namespace Go.Proofs.Ytbfaobkahgadaaa
set_option linter.unusedVariables false
set_option linter.unusedSimpArgs false
open Go
open V (Bytes Meets Env Sl Own Gr Fr Cells S)

def letB (l : List UInt8) : Bool := l.all fun c => decide (97 ≤ (c.toNat : Int)) && decide ((c.toNat : Int) ≤ 122)
/-- is it a key? -/
def isKey (s : ByteArray) : Bool := letB s.data.toList && decide (¬ s = S []) && decide ((s.size : Int) ≤ 8)
theorem letB_succ {l : List UInt8} {i : Nat} {c : UInt8} (h : letB (l.take i) = true) (hi : i < l.length) (hc : l[i] = c) (h1 : 97 ≤ (c.toNat : Int)) (h2 : (c.toNat : Int) ≤ 122) : letB (l.take (i + 1)) = true := by
  subst hc
  unfold letB at *
  rw [List.take_succ_eq_append_getElem hi, List.all_append, h]
  simp [h1, h2]
theorem letB_bad {l : List UInt8} {i : Nat} {c : UInt8} (hi : i < l.length) (hc : l[i] = c) (h : (c.toNat : Int) < 97 ∨ 122 < (c.toNat : Int)) : letB l = false := by
  subst hc
  unfold letB
  rw [List.all_eq_false]
  exact ⟨l[i], List.getElem_mem hi, by simp; omega⟩
theorem letB_full {l : List UInt8} {i : Nat} (h : letB (l.take i) = true) (hi : l.length ≤ i) : letB l = true := by rwa [List.take_of_length_le hi] at h

set_option maxHeartbeats 4000000 in
set_option maxRecDepth 10000 in
theorem key_spec {w : World}  {s : ByteArray} (hs : s.size ≤ 9223372036854775807) :
    Meets Try.prog 23 [.string s] w fun r w' => r = .bool (isKey s) ∧ w = w' := by
  have hsz : s.data.toList.length = s.size := Array.length_toList
  refine V.enter (n := 27) Try.func23 rfl rfl (by decide) rfl ?_
  refine V.seq ?_
  refine V.region ?_
  refine V.run T_ok 1 rfl ?_
  refine V.nil ?_
  refine V.tN ?_
  refine V.seq ?_
  refine V.seq ?_
  refine V.region ?_
  refine V.run T_ok 3 rfl ?_
  refine V.nil ?_
  refine V.tN ?_
  refine V.block ?_
  refine V.loopM (fun m e v2 => w = v2 ∧ ∃ (i : Nat) , m = s.size - i ∧ i ≤ s.size ∧ letB (s.data.toList.take i) = true ∧ e 0 = .string s ∧ e 5 = .int .i64 (s.size : Int) ∧ e 6 = .int .i64 (i : Int)) ?_ ?_
  ·
    exact ⟨_, rfl, (0), rfl, (Nat.zero_le _), (rfl), rfl, rfl, rfl⟩
  rintro _ e v2 ⟨rfl, i, rfl, hi, hlt, he0_0, he0_5, he0_6⟩
  refine V.knownC (t := 0) he0_0 ?_
  refine V.knownC (t := 5) he0_5 ?_
  refine V.knownC (t := 6) he0_6 ?_
  refine V.seq ?_
  refine V.region ?_
  refine V.run T_ok 1 rfl ?_
  refine V.nil ?_
  refine V.tN ?_
  refine V.seq ?_
  refine V.condT rfl (fun h2 => ?_) (fun h2 => ?_)
  ·
    try simp only [decide_eq_true_eq, decide_eq_false_iff_not, Bool.or_eq_true, Bool.and_eq_true, Bool.or_eq_false_iff, Bool.and_eq_false_iff, Bool.not_eq_true', Bool.not_eq_false', Int.not_lt, Int.not_le, Decidable.not_not, V.u8eq, V.S_inj, V.S_lit, V.S_lit2, V.bl] at h2
    try simp only [V.mk0, V.mk1, V.mk2, V.mk3] at h2
    refine V.skip ?_
    refine V.tN ?_
    refine V.seq ?_
    refine V.block ?_
    refine V.seq ?_
    refine V.region ?_
    refine V.run T_ok 2 rfl ?_
    refine V.nil ?_
    refine V.tN ?_
    refine V.seq ?_
    refine V.region ?_
    refine V.run T_ok 2 rfl ?_
    refine V.sidx Try.underlying9 rfl rfl rfl rfl rfl (by omega) (by omega) (fun H4_2 => ?_)
    refine V.run T_ok 2 rfl ?_
    refine V.split (j := 4) (t := 13) rfl rfl (fun g4_4 => ?_) (fun g4_4 => ?_)
    ·
      try simp only [decide_eq_true_eq, decide_eq_false_iff_not, Bool.or_eq_true, Bool.and_eq_true, Bool.or_eq_false_iff, Bool.and_eq_false_iff, Bool.not_eq_true', Bool.not_eq_false', Int.not_lt, Int.not_le, Decidable.not_not, V.u8eq, V.S_inj, V.S_lit, V.S_lit2, V.bl] at g4_4
      try simp only [V.mk0, V.mk1, V.mk2, V.mk3] at g4_4
      refine V.run T_ok 5 rfl ?_
      refine V.nil ?_
      refine V.tN ?_
      refine V.condY rfl rfl ?_
      refine V.seq ?_
      refine V.region ?_
      refine V.run T_ok 1 rfl ?_
      refine V.nil ?_
      refine V.tN ?_
      refine V.ret ?_
      refine V.bR ?_
      refine V.tR ?_
      refine V.tR ?_
      refine V.bR ?_
      refine V.tR ?_
      refine V.done rfl ?_
      exact ⟨congrArg Value.bool (by unfold isKey; rw [letB_bad H4_2 rfl (by omega)]; rfl), rfl⟩
    ·
      try simp only [decide_eq_true_eq, decide_eq_false_iff_not, Bool.or_eq_true, Bool.and_eq_true, Bool.or_eq_false_iff, Bool.and_eq_false_iff, Bool.not_eq_true', Bool.not_eq_false', Int.not_lt, Int.not_le, Decidable.not_not, V.u8eq, V.S_inj, V.S_lit, V.S_lit2, V.bl] at g4_4
      try simp only [V.mk0, V.mk1, V.mk2, V.mk3] at g4_4
      refine V.run T_ok 2 rfl ?_
      refine V.yes rfl rfl rfl ?_
      refine V.sidx Try.underlying9 rfl rfl rfl rfl rfl (by omega) (by omega) (fun H4_7 => ?_)
      refine V.run T_ok 2 rfl ?_
      refine V.nil ?_
      refine V.tN ?_
      refine V.condT rfl (fun h4 => ?_) (fun h4 => ?_)
      ·
        try simp only [decide_eq_true_eq, decide_eq_false_iff_not, Bool.or_eq_true, Bool.and_eq_true, Bool.or_eq_false_iff, Bool.and_eq_false_iff, Bool.not_eq_true', Bool.not_eq_false', Int.not_lt, Int.not_le, Decidable.not_not, V.u8eq, V.S_inj, V.S_lit, V.S_lit2, V.bl] at h4
        try simp only [V.mk0, V.mk1, V.mk2, V.mk3] at h4
        refine V.seq ?_
        refine V.region ?_
        refine V.run T_ok 1 rfl ?_
        refine V.nil ?_
        refine V.tN ?_
        refine V.ret ?_
        refine V.bR ?_
        refine V.tR ?_
        refine V.tR ?_
        refine V.bR ?_
        refine V.tR ?_
        refine V.done rfl ?_
        exact ⟨congrArg Value.bool (by unfold isKey; rw [letB_bad H4_2 rfl (by omega)]; rfl), rfl⟩
      ·
        try simp only [decide_eq_true_eq, decide_eq_false_iff_not, Bool.or_eq_true, Bool.and_eq_true, Bool.or_eq_false_iff, Bool.and_eq_false_iff, Bool.not_eq_true', Bool.not_eq_false', Int.not_lt, Int.not_le, Decidable.not_not, V.u8eq, V.S_inj, V.S_lit, V.S_lit2, V.bl] at h4
        try simp only [V.mk0, V.mk1, V.mk2, V.mk3] at h4
        refine V.skip ?_
        refine V.bN ?_
        refine V.tN ?_
        refine V.region ?_
        refine V.addN rfl rfl rfl rfl rfl (by first | omega | (simp only [List.length_take, List.length_drop, List.length_append, List.length_cons, List.length_nil, List.length_replicate, List.length_set, V.length_data, V.S_size]; omega)) (by first | omega | (simp only [List.length_take, List.length_drop, List.length_append, List.length_cons, List.length_nil, List.length_replicate, List.length_set, V.length_data, V.S_size]; omega)) ?_
        refine V.run T_ok 1 rfl ?_
        refine V.nil ?_
        refine V.tN ?_
        exact ⟨_, (by omega), rfl, (i + 1), rfl, (by omega), (letB_succ hlt H4_2 rfl g4_4 h4), rfl, rfl, rfl⟩
  ·
    try simp only [decide_eq_true_eq, decide_eq_false_iff_not, Bool.or_eq_true, Bool.and_eq_true, Bool.or_eq_false_iff, Bool.and_eq_false_iff, Bool.not_eq_true', Bool.not_eq_false', Int.not_lt, Int.not_le, Decidable.not_not, V.u8eq, V.S_inj, V.S_lit, V.S_lit2, V.bl] at h2
    try simp only [V.mk0, V.mk1, V.mk2, V.mk3] at h2
    refine V.exit ?_
    refine V.tX ?_
    refine V.tX ?_
    refine V.bE ?_
    refine V.tN ?_
    refine V.seq ?_
    refine V.region ?_
    refine V.run T_ok 3 rfl ?_
    refine V.andG T_ok 3 2 22 rfl rfl rfl rfl rfl rfl rfl rfl ?_
    refine V.run T_ok 1 rfl ?_
    refine V.nil ?_
    refine V.tN ?_
    refine V.ret ?_
    refine V.done rfl ?_
    exact ⟨congrArg Value.bool (by unfold isKey; rw [letB_full hlt (by omega)]; rfl), rfl⟩

set_option maxHeartbeats 4000000 in
set_option maxRecDepth 10000 in
theorem rkey_spec {w : World}  {s : ByteArray} (hs : s.size ≤ 9223372036854775807) :
    Meets Try.prog 18 [.string s] w fun r w' => r = .bool (isKey s) ∧ w = w' := by
  have hsz : s.data.toList.length = s.size := Array.length_toList
  refine V.enter (n := 28) Try.func18 rfl rfl (by decide) rfl ?_
  refine V.seq ?_
  refine V.region ?_
  refine V.run T_ok 1 rfl ?_
  refine V.nil ?_
  refine V.tN ?_
  refine V.seq ?_
  refine V.seq ?_
  refine V.region ?_
  refine V.run T_ok 1 rfl ?_
  refine V.nil ?_
  refine V.tN ?_
  refine V.block ?_
  refine V.loopM (fun m e v2 => w = v2 ∧ ∃ (i : Nat) , m = s.size - i ∧ i ≤ s.size ∧ letB (s.data.toList.take i) = true ∧ e 0 = .string s ∧ e 3 = .int .i64 (i : Int)) ?_ ?_
  ·
    exact ⟨_, rfl, (0), rfl, (Nat.zero_le _), (rfl), rfl, rfl⟩
  rintro _ e v2 ⟨rfl, i, rfl, hi, hlt, he0_0, he0_3⟩
  refine V.knownC (t := 0) he0_0 ?_
  refine V.knownC (t := 3) he0_3 ?_
  refine V.seq ?_
  refine V.seq ?_
  refine V.region ?_
  refine V.run T_ok 4 rfl ?_
  refine V.nil ?_
  refine V.tN ?_
  refine V.condT rfl (fun h2 => ?_) (fun h2 => ?_)
  ·
    try simp only [decide_eq_true_eq, decide_eq_false_iff_not, Bool.or_eq_true, Bool.and_eq_true, Bool.or_eq_false_iff, Bool.and_eq_false_iff, Bool.not_eq_true', Bool.not_eq_false', Int.not_lt, Int.not_le, Decidable.not_not, V.u8eq, V.S_inj, V.S_lit, V.S_lit2, V.bl] at h2
    try simp only [V.mk0, V.mk1, V.mk2, V.mk3] at h2
    refine V.skip ?_
    refine V.tN ?_
    refine V.seq ?_
    refine V.block ?_
    refine V.seq ?_
    refine V.region ?_
    refine V.run T_ok 2 rfl ?_
    refine V.sidx Try.underlying9 rfl rfl rfl rfl rfl (by omega) (by omega) (fun H4_2 => ?_)
    refine V.run T_ok 2 rfl ?_
    refine V.split (j := 4) (t := 14) rfl rfl (fun g4_4 => ?_) (fun g4_4 => ?_)
    ·
      try simp only [decide_eq_true_eq, decide_eq_false_iff_not, Bool.or_eq_true, Bool.and_eq_true, Bool.or_eq_false_iff, Bool.and_eq_false_iff, Bool.not_eq_true', Bool.not_eq_false', Int.not_lt, Int.not_le, Decidable.not_not, V.u8eq, V.S_inj, V.S_lit, V.S_lit2, V.bl] at g4_4
      try simp only [V.mk0, V.mk1, V.mk2, V.mk3] at g4_4
      refine V.run T_ok 5 rfl ?_
      refine V.nil ?_
      refine V.tN ?_
      refine V.condY rfl rfl ?_
      refine V.seq ?_
      refine V.region ?_
      refine V.run T_ok 1 rfl ?_
      refine V.nil ?_
      refine V.tN ?_
      refine V.ret ?_
      refine V.bR ?_
      refine V.tR ?_
      refine V.tR ?_
      refine V.bR ?_
      refine V.tR ?_
      refine V.done rfl ?_
      exact ⟨congrArg Value.bool (by unfold isKey; rw [letB_bad H4_2 rfl (by omega)]; rfl), rfl⟩
    ·
      try simp only [decide_eq_true_eq, decide_eq_false_iff_not, Bool.or_eq_true, Bool.and_eq_true, Bool.or_eq_false_iff, Bool.and_eq_false_iff, Bool.not_eq_true', Bool.not_eq_false', Int.not_lt, Int.not_le, Decidable.not_not, V.u8eq, V.S_inj, V.S_lit, V.S_lit2, V.bl] at g4_4
      try simp only [V.mk0, V.mk1, V.mk2, V.mk3] at g4_4
      refine V.run T_ok 2 rfl ?_
      refine V.yes rfl rfl rfl ?_
      refine V.sidx Try.underlying9 rfl rfl rfl rfl rfl (by omega) (by omega) (fun H4_7 => ?_)
      refine V.run T_ok 2 rfl ?_
      refine V.nil ?_
      refine V.tN ?_
      refine V.condT rfl (fun h4 => ?_) (fun h4 => ?_)
      ·
        try simp only [decide_eq_true_eq, decide_eq_false_iff_not, Bool.or_eq_true, Bool.and_eq_true, Bool.or_eq_false_iff, Bool.and_eq_false_iff, Bool.not_eq_true', Bool.not_eq_false', Int.not_lt, Int.not_le, Decidable.not_not, V.u8eq, V.S_inj, V.S_lit, V.S_lit2, V.bl] at h4
        try simp only [V.mk0, V.mk1, V.mk2, V.mk3] at h4
        refine V.seq ?_
        refine V.region ?_
        refine V.run T_ok 1 rfl ?_
        refine V.nil ?_
        refine V.tN ?_
        refine V.ret ?_
        refine V.bR ?_
        refine V.tR ?_
        refine V.tR ?_
        refine V.bR ?_
        refine V.tR ?_
        refine V.done rfl ?_
        exact ⟨congrArg Value.bool (by unfold isKey; rw [letB_bad H4_2 rfl (by omega)]; rfl), rfl⟩
      ·
        try simp only [decide_eq_true_eq, decide_eq_false_iff_not, Bool.or_eq_true, Bool.and_eq_true, Bool.or_eq_false_iff, Bool.and_eq_false_iff, Bool.not_eq_true', Bool.not_eq_false', Int.not_lt, Int.not_le, Decidable.not_not, V.u8eq, V.S_inj, V.S_lit, V.S_lit2, V.bl] at h4
        try simp only [V.mk0, V.mk1, V.mk2, V.mk3] at h4
        refine V.skip ?_
        refine V.bN ?_
        refine V.tN ?_
        refine V.region ?_
        refine V.run T_ok 1 rfl ?_
        refine V.addN rfl rfl rfl rfl rfl (by first | omega | (simp only [List.length_take, List.length_drop, List.length_append, List.length_cons, List.length_nil, List.length_replicate, List.length_set, V.length_data, V.S_size]; omega)) (by first | omega | (simp only [List.length_take, List.length_drop, List.length_append, List.length_cons, List.length_nil, List.length_replicate, List.length_set, V.length_data, V.S_size]; omega)) ?_
        refine V.run T_ok 1 rfl ?_
        refine V.nil ?_
        refine V.tN ?_
        exact ⟨_, (by omega), rfl, (i + 1), rfl, (by omega), (letB_succ hlt H4_2 rfl (by first | exact g4_4 | omega) (by first | exact h4 | omega)), rfl, rfl⟩
  ·
    try simp only [decide_eq_true_eq, decide_eq_false_iff_not, Bool.or_eq_true, Bool.and_eq_true, Bool.or_eq_false_iff, Bool.and_eq_false_iff, Bool.not_eq_true', Bool.not_eq_false', Int.not_lt, Int.not_le, Decidable.not_not, V.u8eq, V.S_inj, V.S_lit, V.S_lit2, V.bl] at h2
    try simp only [V.mk0, V.mk1, V.mk2, V.mk3] at h2
    refine V.exit ?_
    refine V.tX ?_
    refine V.tX ?_
    refine V.bE ?_
    refine V.tN ?_
    refine V.seq ?_
    refine V.region ?_
    refine V.run T_ok 4 rfl ?_
    refine V.andG T_ok 3 3 23 rfl rfl rfl rfl rfl rfl rfl rfl ?_
    refine V.run T_ok 1 rfl ?_
    refine V.nil ?_
    refine V.tN ?_
    refine V.ret ?_
    refine V.done rfl ?_
    exact ⟨congrArg Value.bool (by unfold isKey; rw [letB_full hlt (by omega)]; have := V.size0 (s := s); grind), rfl⟩


def rightB (f t : ByteArray) : Bool := isKey f && (decide (t = S []) || ((decide (t = S [123]) || isKey t) && decide (f < t)))
def hasB (f t k : ByteArray) : Bool := rightB f t && isKey k && (if t = S [] then decide (k = f) else (decide (f ≤ k) && decide (k < t)))
def meetB (f t f' t' : ByteArray) : Bool := rightB f t && rightB f' t' && (hasB f t f' || hasB f' t' f)
def maxS (a b : ByteArray) : ByteArray := if a < b then b else a
def minS (a b : ByteArray) : ByteArray := if a < b ∨ a = b then a else b
def clipV (f t f' t' : ByteArray) : ByteArray × ByteArray := if t = S [] then (f, t) else if t' = S [] then (f', t') else (maxS f f', minS t t')

set_option maxHeartbeats 4000000 in
set_option maxRecDepth 10000 in
theorem right_spec {w : World}  {f : ByteArray} {t : ByteArray} (hf : f.size ≤ 9223372036854775807) (ht : t.size ≤ 9223372036854775807) :
    Meets Try.prog 29 [.agg #[.string f, .string t]] w fun r w' => r = .bool (rightB f t) ∧ Gr w w' := by
  have HG := V.Fr.refl [] w
  refine V.enter (n := 30) Try.func29 rfl rfl (by decide) rfl ?_
  refine V.seq ?_
  refine V.region ?_
  refine V.box rfl rfl rfl rfl ?_
  rintro k1 w3 s5 s6 G4 Fk2
  have z7 := V.Fr.size G4
  replace HG := HG.grow G4
  clear G4
  try simp only [V.cellsL, V.spliceL] at Fk2
  refine V.run T_ok 1 rfl ?_
  refine V.nil ?_
  refine V.tN ?_
  refine V.seq ?_
  refine V.seq ?_
  refine V.region ?_
  refine V.run T_ok 1 rfl ?_
  refine V.loadO T_ok Fk2 rfl rfl rfl rfl rfl ?_
  refine V.call (key_spec (s := f) (by first | omega | decide | (simp only [V.S_size, List.length_cons, List.length_nil]; omega))) rfl rfl rfl ?_
  rintro _ w3_ ⟨rfl, rfl⟩
  refine V.run T_ok 2 rfl ?_
  refine V.split (j := 4) (t := 7) rfl rfl (fun g1_4 => ?_) (fun g1_4 => ?_)
  ·
    try simp only [decide_eq_true_eq, decide_eq_false_iff_not, Bool.or_eq_true, Bool.and_eq_true, Bool.or_eq_false_iff, Bool.and_eq_false_iff, Bool.not_eq_true', Bool.not_eq_false', Int.not_lt, Int.not_le, Decidable.not_not, V.u8eq, V.S_inj, V.S_lit, V.S_lit2, V.bl] at g1_4
    try simp only [V.mk0, V.mk1, V.mk2, V.mk3] at g1_4
    refine V.run T_ok 4 rfl ?_
    refine V.nil ?_
    refine V.tN ?_
    refine V.condY rfl rfl ?_
    refine V.seq ?_
    refine V.region ?_
    refine V.run T_ok 1 rfl ?_
    refine V.loadO T_ok Fk2 rfl rfl rfl rfl rfl ?_
    refine V.call (key_spec (s := f) (by first | omega | decide | (simp only [V.S_size, List.length_cons, List.length_nil]; omega))) rfl rfl rfl ?_
    rintro _ w3_ ⟨rfl, rfl⟩
    refine V.run T_ok 1 rfl ?_
    refine V.nil ?_
    refine V.tN ?_
    refine V.ret ?_
    refine V.tR ?_
    refine V.done rfl ?_
    exact ⟨congrArg Value.bool (by (try simp only [V.bl]); (try simp only [V.mk0, V.mk1]); grind [rightB]), HG⟩
  ·
    try simp only [decide_eq_true_eq, decide_eq_false_iff_not, Bool.or_eq_true, Bool.and_eq_true, Bool.or_eq_false_iff, Bool.and_eq_false_iff, Bool.not_eq_true', Bool.not_eq_false', Int.not_lt, Int.not_le, Decidable.not_not, V.u8eq, V.S_inj, V.S_lit, V.S_lit2, V.bl] at g1_4
    try simp only [V.mk0, V.mk1, V.mk2, V.mk3] at g1_4
    refine V.run T_ok 1 rfl ?_
    refine V.yes rfl rfl rfl ?_
    refine V.loadO T_ok Fk2 rfl rfl rfl rfl rfl ?_
    refine V.run T_ok 2 rfl ?_
    refine V.nil ?_
    refine V.tN ?_
    refine V.condT rfl (fun h1 => ?_) (fun h1 => ?_)
    ·
      try simp only [decide_eq_true_eq, decide_eq_false_iff_not, Bool.or_eq_true, Bool.and_eq_true, Bool.or_eq_false_iff, Bool.and_eq_false_iff, Bool.not_eq_true', Bool.not_eq_false', Int.not_lt, Int.not_le, Decidable.not_not, V.u8eq, V.S_inj, V.S_lit, V.S_lit2, V.bl] at h1
      try simp only [V.mk0, V.mk1, V.mk2, V.mk3] at h1
      refine V.seq ?_
      refine V.region ?_
      refine V.run T_ok 1 rfl ?_
      refine V.loadO T_ok Fk2 rfl rfl rfl rfl rfl ?_
      refine V.call (key_spec (s := f) (by first | omega | decide | (simp only [V.S_size, List.length_cons, List.length_nil]; omega))) rfl rfl rfl ?_
      rintro _ w3_ ⟨rfl, rfl⟩
      refine V.run T_ok 1 rfl ?_
      refine V.nil ?_
      refine V.tN ?_
      refine V.ret ?_
      refine V.tR ?_
      refine V.done rfl ?_
      exact ⟨congrArg Value.bool (by (try simp only [V.bl]); (try simp only [V.mk0, V.mk1]); grind [rightB]), HG⟩
    ·
      try simp only [decide_eq_true_eq, decide_eq_false_iff_not, Bool.or_eq_true, Bool.and_eq_true, Bool.or_eq_false_iff, Bool.and_eq_false_iff, Bool.not_eq_true', Bool.not_eq_false', Int.not_lt, Int.not_le, Decidable.not_not, V.u8eq, V.S_inj, V.S_lit, V.S_lit2, V.bl] at h1
      try simp only [V.mk0, V.mk1, V.mk2, V.mk3] at h1
      refine V.skip ?_
      refine V.tN ?_
      refine V.seq ?_
      refine V.region ?_
      refine V.run T_ok 1 rfl ?_
      refine V.loadO T_ok Fk2 rfl rfl rfl rfl rfl ?_
      refine V.run T_ok 2 rfl ?_
      refine V.split (j := 3) (t := 18) rfl rfl (fun g3_3 => ?_) (fun g3_3 => ?_)
      ·
        try simp only [decide_eq_true_eq, decide_eq_false_iff_not, Bool.or_eq_true, Bool.and_eq_true, Bool.or_eq_false_iff, Bool.and_eq_false_iff, Bool.not_eq_true', Bool.not_eq_false', Int.not_lt, Int.not_le, Decidable.not_not, V.u8eq, V.S_inj, V.S_lit, V.S_lit2, V.bl] at g3_3
        try simp only [V.mk0, V.mk1, V.mk2, V.mk3] at g3_3
        refine V.run T_ok 6 rfl ?_
        refine V.yes rfl rfl rfl ?_
        refine V.loadO T_ok Fk2 rfl rfl rfl rfl rfl ?_
        refine V.run T_ok 1 rfl ?_
        refine V.yes rfl rfl rfl ?_
        refine V.loadO T_ok Fk2 rfl rfl rfl rfl rfl ?_
        refine V.run T_ok 3 rfl ?_
        refine V.nil ?_
        refine V.tN ?_
        refine V.ret ?_
        refine V.done rfl ?_
        exact ⟨congrArg Value.bool (by (try simp only [V.bl]); (try simp only [V.mk0, V.mk1]); grind [rightB]), HG⟩
      ·
        try simp only [decide_eq_true_eq, decide_eq_false_iff_not, Bool.or_eq_true, Bool.and_eq_true, Bool.or_eq_false_iff, Bool.and_eq_false_iff, Bool.not_eq_true', Bool.not_eq_false', Int.not_lt, Int.not_le, Decidable.not_not, V.u8eq, V.S_inj, V.S_lit, V.S_lit2, V.bl] at g3_3
        try simp only [V.mk0, V.mk1, V.mk2, V.mk3] at g3_3
        refine V.run T_ok 1 rfl ?_
        refine V.yes rfl rfl rfl ?_
        refine V.loadO T_ok Fk2 rfl rfl rfl rfl rfl ?_
        refine V.yes rfl rfl rfl ?_
        refine V.call (key_spec (s := t) (by first | omega | decide | (simp only [V.S_size, List.length_cons, List.length_nil]; omega))) rfl rfl rfl ?_
        rintro _ w3_ ⟨rfl, rfl⟩
        refine V.run T_ok 2 rfl ?_
        refine V.split (j := 8) (t := 23) rfl rfl (fun g3_8 => ?_) (fun g3_8 => ?_)
        ·
          try simp only [decide_eq_true_eq, decide_eq_false_iff_not, Bool.or_eq_true, Bool.and_eq_true, Bool.or_eq_false_iff, Bool.and_eq_false_iff, Bool.not_eq_true', Bool.not_eq_false', Int.not_lt, Int.not_le, Decidable.not_not, V.u8eq, V.S_inj, V.S_lit, V.S_lit2, V.bl] at g3_8
          try simp only [V.mk0, V.mk1, V.mk2, V.mk3] at g3_8
          refine V.run T_ok 1 rfl ?_
          refine V.yes rfl rfl rfl ?_
          refine V.loadO T_ok Fk2 rfl rfl rfl rfl rfl ?_
          refine V.run T_ok 1 rfl ?_
          refine V.yes rfl rfl rfl ?_
          refine V.loadO T_ok Fk2 rfl rfl rfl rfl rfl ?_
          refine V.run T_ok 3 rfl ?_
          refine V.nil ?_
          refine V.tN ?_
          refine V.ret ?_
          refine V.done rfl ?_
          exact ⟨congrArg Value.bool (by (try simp only [V.bl]); (try simp only [V.mk0, V.mk1]); grind [rightB]), HG⟩
        ·
          try simp only [decide_eq_true_eq, decide_eq_false_iff_not, Bool.or_eq_true, Bool.and_eq_true, Bool.or_eq_false_iff, Bool.and_eq_false_iff, Bool.not_eq_true', Bool.not_eq_false', Int.not_lt, Int.not_le, Decidable.not_not, V.u8eq, V.S_inj, V.S_lit, V.S_lit2, V.bl] at g3_8
          try simp only [V.mk0, V.mk1, V.mk2, V.mk3] at g3_8
          refine V.run T_ok 7 rfl ?_
          refine V.nil ?_
          refine V.tN ?_
          refine V.ret ?_
          refine V.done rfl ?_
          exact ⟨congrArg Value.bool (by (try simp only [V.bl]); (try simp only [V.mk0, V.mk1]); grind [rightB]), HG⟩

set_option maxHeartbeats 4000000 in
set_option maxRecDepth 10000 in
theorem has_spec {w : World}  {f : ByteArray} {t : ByteArray} {k : ByteArray} (hf : f.size ≤ 9223372036854775807) (ht : t.size ≤ 9223372036854775807) (hk : k.size ≤ 9223372036854775807) :
    Meets Try.prog 19 [.agg #[.string f, .string t], .string k] w fun r w' => r = .bool (hasB f t k) ∧ Gr w w' := by
  have HG := V.Fr.refl [] w
  refine V.enter (n := 32) Try.func19 rfl rfl (by decide) rfl ?_
  refine V.seq ?_
  refine V.region ?_
  refine V.box rfl rfl rfl rfl ?_
  rintro k1 w3 s5 s6 G4 Fk2
  have z7 := V.Fr.size G4
  replace HG := HG.grow G4
  clear G4
  try simp only [V.cellsL, V.spliceL] at Fk2
  refine V.run T_ok 1 rfl ?_
  refine V.nil ?_
  refine V.tN ?_
  refine V.seq ?_
  refine V.block ?_
  refine V.seq ?_
  refine V.region ?_
  refine V.loadO T_ok Fk2 rfl rfl rfl rfl rfl ?_
  refine V.call (right_spec (f := f) (t := t) (by first | omega | decide | (simp only [V.S_size, List.length_cons, List.length_nil]; omega)) (by first | omega | decide | (simp only [V.S_size, List.length_cons, List.length_nil]; omega))) rfl rfl rfl ?_
  rintro _ w8 ⟨rfl, G9⟩
  have z10 := V.Fr.size G9
  try replace Fk2 := Fk2.gr G9
  replace HG := HG.grow G9
  clear G9
  refine V.run T_ok 2 rfl ?_
  refine V.split (j := 3) (t := 9) rfl rfl (fun g1_3 => ?_) (fun g1_3 => ?_)
  ·
    try simp only [decide_eq_true_eq, decide_eq_false_iff_not, Bool.or_eq_true, Bool.and_eq_true, Bool.or_eq_false_iff, Bool.and_eq_false_iff, Bool.not_eq_true', Bool.not_eq_false', Int.not_lt, Int.not_le, Decidable.not_not, V.u8eq, V.S_inj, V.S_lit, V.S_lit2, V.bl] at g1_3
    try simp only [V.mk0, V.mk1, V.mk2, V.mk3] at g1_3
    refine V.run T_ok 5 rfl ?_
    refine V.nil ?_
    refine V.tN ?_
    refine V.condY rfl rfl ?_
    refine V.seq ?_
    refine V.region ?_
    refine V.run T_ok 1 rfl ?_
    refine V.nil ?_
    refine V.tN ?_
    refine V.ret ?_
    refine V.bR ?_
    refine V.tR ?_
    refine V.done rfl ?_
    exact ⟨congrArg Value.bool (by (try simp only [V.bl]); (try simp only [V.mk0, V.mk1]); grind [hasB]), HG⟩
  ·
    try simp only [decide_eq_true_eq, decide_eq_false_iff_not, Bool.or_eq_true, Bool.and_eq_true, Bool.or_eq_false_iff, Bool.and_eq_false_iff, Bool.not_eq_true', Bool.not_eq_false', Int.not_lt, Int.not_le, Decidable.not_not, V.u8eq, V.S_inj, V.S_lit, V.S_lit2, V.bl] at g1_3
    try simp only [V.mk0, V.mk1, V.mk2, V.mk3] at g1_3
    refine V.run T_ok 1 rfl ?_
    refine V.yes rfl rfl rfl ?_
    refine V.call (key_spec (s := k) (by first | omega | decide | (simp only [V.S_size, List.length_cons, List.length_nil]; omega))) rfl rfl rfl ?_
    rintro _ w8_ ⟨rfl, rfl⟩
    refine V.run T_ok 3 rfl ?_
    refine V.nil ?_
    refine V.tN ?_
    refine V.condT rfl (fun h1 => ?_) (fun h1 => ?_)
    ·
      try simp only [decide_eq_true_eq, decide_eq_false_iff_not, Bool.or_eq_true, Bool.and_eq_true, Bool.or_eq_false_iff, Bool.and_eq_false_iff, Bool.not_eq_true', Bool.not_eq_false', Int.not_lt, Int.not_le, Decidable.not_not, V.u8eq, V.S_inj, V.S_lit, V.S_lit2, V.bl] at h1
      try simp only [V.mk0, V.mk1, V.mk2, V.mk3] at h1
      refine V.seq ?_
      refine V.region ?_
      refine V.run T_ok 1 rfl ?_
      refine V.nil ?_
      refine V.tN ?_
      refine V.ret ?_
      refine V.bR ?_
      refine V.tR ?_
      refine V.done rfl ?_
      exact ⟨congrArg Value.bool (by (try simp only [V.bl]); (try simp only [V.mk0, V.mk1]); grind [hasB]), HG⟩
    ·
      try simp only [decide_eq_true_eq, decide_eq_false_iff_not, Bool.or_eq_true, Bool.and_eq_true, Bool.or_eq_false_iff, Bool.and_eq_false_iff, Bool.not_eq_true', Bool.not_eq_false', Int.not_lt, Int.not_le, Decidable.not_not, V.u8eq, V.S_inj, V.S_lit, V.S_lit2, V.bl] at h1
      try simp only [V.mk0, V.mk1, V.mk2, V.mk3] at h1
      refine V.seq ?_
      refine V.region ?_
      refine V.run T_ok 1 rfl ?_
      refine V.loadO T_ok Fk2 rfl rfl rfl rfl rfl ?_
      refine V.run T_ok 2 rfl ?_
      refine V.nil ?_
      refine V.tN ?_
      refine V.condT rfl (fun h3 => ?_) (fun h3 => ?_)
      ·
        try simp only [decide_eq_true_eq, decide_eq_false_iff_not, Bool.or_eq_true, Bool.and_eq_true, Bool.or_eq_false_iff, Bool.and_eq_false_iff, Bool.not_eq_true', Bool.not_eq_false', Int.not_lt, Int.not_le, Decidable.not_not, V.u8eq, V.S_inj, V.S_lit, V.S_lit2, V.bl] at h3
        try simp only [V.mk0, V.mk1, V.mk2, V.mk3] at h3
        refine V.seq ?_
        refine V.region ?_
        refine V.run T_ok 2 rfl ?_
        refine V.loadO T_ok Fk2 rfl rfl rfl rfl rfl ?_
        refine V.run T_ok 2 rfl ?_
        refine V.nil ?_
        refine V.tN ?_
        refine V.ret ?_
        refine V.bR ?_
        refine V.tR ?_
        refine V.done rfl ?_
        exact ⟨congrArg Value.bool (by (try simp only [V.bl]); (try simp only [V.mk0, V.mk1]); grind [hasB]), HG⟩
      ·
        try simp only [decide_eq_true_eq, decide_eq_false_iff_not, Bool.or_eq_true, Bool.and_eq_true, Bool.or_eq_false_iff, Bool.and_eq_false_iff, Bool.not_eq_true', Bool.not_eq_false', Int.not_lt, Int.not_le, Decidable.not_not, V.u8eq, V.S_inj, V.S_lit, V.S_lit2, V.bl] at h3
        try simp only [V.mk0, V.mk1, V.mk2, V.mk3] at h3
        refine V.skip ?_
        refine V.bN ?_
        refine V.tN ?_
        refine V.seq ?_
        refine V.region ?_
        refine V.run T_ok 1 rfl ?_
        refine V.loadO T_ok Fk2 rfl rfl rfl rfl rfl ?_
        refine V.run T_ok 3 rfl ?_
        refine V.split (j := 4) (t := 26) rfl rfl (fun g5_4 => ?_) (fun g5_4 => ?_)
        ·
          try simp only [decide_eq_true_eq, decide_eq_false_iff_not, Bool.or_eq_true, Bool.and_eq_true, Bool.or_eq_false_iff, Bool.and_eq_false_iff, Bool.not_eq_true', Bool.not_eq_false', Int.not_lt, Int.not_le, Decidable.not_not, V.u8eq, V.S_inj, V.S_lit, V.S_lit2, V.bl] at g5_4
          try simp only [V.mk0, V.mk1, V.mk2, V.mk3] at g5_4
          refine V.run T_ok 2 rfl ?_
          refine V.yes rfl rfl rfl ?_
          refine V.loadO T_ok Fk2 rfl rfl rfl rfl rfl ?_
          refine V.run T_ok 3 rfl ?_
          refine V.nil ?_
          refine V.tN ?_
          refine V.ret ?_
          refine V.done rfl ?_
          exact ⟨congrArg Value.bool (by (try simp only [V.bl]); (try simp only [V.mk0, V.mk1]); grind [hasB]), HG⟩
        ·
          try simp only [decide_eq_true_eq, decide_eq_false_iff_not, Bool.or_eq_true, Bool.and_eq_true, Bool.or_eq_false_iff, Bool.and_eq_false_iff, Bool.not_eq_true', Bool.not_eq_false', Int.not_lt, Int.not_le, Decidable.not_not, V.u8eq, V.S_inj, V.S_lit, V.S_lit2, V.bl] at g5_4
          try simp only [V.mk0, V.mk1, V.mk2, V.mk3] at g5_4
          refine V.run T_ok 6 rfl ?_
          refine V.nil ?_
          refine V.tN ?_
          refine V.ret ?_
          refine V.done rfl ?_
          exact ⟨congrArg Value.bool (by (try simp only [V.bl]); (try simp only [V.mk0, V.mk1]); grind [hasB]), HG⟩

set_option maxHeartbeats 4000000 in
set_option maxRecDepth 10000 in
theorem meet_spec {w : World}  {f : ByteArray} {t : ByteArray} {f2 : ByteArray} {t2 : ByteArray} (hf : f.size ≤ 9223372036854775807) (ht : t.size ≤ 9223372036854775807) (hf2 : f2.size ≤ 9223372036854775807) (ht2 : t2.size ≤ 9223372036854775807) :
    Meets Try.prog 21 [.agg #[.string f, .string t], .agg #[.string f2, .string t2]] w fun r w' => r = .bool (meetB f t f2 t2) ∧ Gr w w' := by
  have HG := V.Fr.refl [] w
  refine V.enter (n := 23) Try.func21 rfl rfl (by decide) rfl ?_
  refine V.seq ?_
  refine V.region ?_
  refine V.box rfl rfl rfl rfl ?_
  rintro k1 w3 s5 s6 G4 Fk2
  have z7 := V.Fr.size G4
  replace HG := HG.grow G4
  clear G4
  try simp only [V.cellsL, V.spliceL] at Fk2
  refine V.box rfl rfl rfl rfl ?_
  rintro k8 w10 s12 s13 G11 Fk9
  have z14 := V.Fr.size G11
  try replace Fk2 := Fk2.gr G11
  replace HG := HG.grow G11
  clear G11
  try simp only [V.cellsL, V.spliceL] at Fk9
  refine V.run T_ok 1 rfl ?_
  refine V.nil ?_
  refine V.tN ?_
  refine V.seq ?_
  refine V.region ?_
  refine V.loadO T_ok Fk2 rfl rfl rfl rfl rfl ?_
  refine V.call (right_spec (f := f) (t := t) (by first | omega | decide | (simp only [V.S_size, List.length_cons, List.length_nil]; omega)) (by first | omega | decide | (simp only [V.S_size, List.length_cons, List.length_nil]; omega))) rfl rfl rfl ?_
  rintro _ w15 ⟨rfl, G16⟩
  have z17 := V.Fr.size G16
  try replace Fk2 := Fk2.gr G16
  try replace Fk9 := Fk9.gr G16
  replace HG := HG.grow G16
  clear G16
  refine V.run T_ok 1 rfl ?_
  refine V.split (j := 2) (t := 7) rfl rfl (fun g1_2 => ?_) (fun g1_2 => ?_)
  ·
    try simp only [decide_eq_true_eq, decide_eq_false_iff_not, Bool.or_eq_true, Bool.and_eq_true, Bool.or_eq_false_iff, Bool.and_eq_false_iff, Bool.not_eq_true', Bool.not_eq_false', Int.not_lt, Int.not_le, Decidable.not_not, V.u8eq, V.S_inj, V.S_lit, V.S_lit2, V.bl] at g1_2
    try simp only [V.mk0, V.mk1, V.mk2, V.mk3] at g1_2
    refine V.yes rfl rfl rfl ?_
    refine V.loadO T_ok Fk9 rfl rfl rfl rfl rfl ?_
    refine V.yes rfl rfl rfl ?_
    refine V.call (right_spec (f := f2) (t := t2) (by first | omega | decide | (simp only [V.S_size, List.length_cons, List.length_nil]; omega)) (by first | omega | decide | (simp only [V.S_size, List.length_cons, List.length_nil]; omega))) rfl rfl rfl ?_
    rintro _ w18 ⟨rfl, G19⟩
    have z20 := V.Fr.size G19
    try replace Fk2 := Fk2.gr G19
    try replace Fk9 := Fk9.gr G19
    replace HG := HG.grow G19
    clear G19
    refine V.run T_ok 2 rfl ?_
    refine V.split (j := 6) (t := 11) rfl rfl (fun g1_6 => ?_) (fun g1_6 => ?_)
    ·
      try simp only [decide_eq_true_eq, decide_eq_false_iff_not, Bool.or_eq_true, Bool.and_eq_true, Bool.or_eq_false_iff, Bool.and_eq_false_iff, Bool.not_eq_true', Bool.not_eq_false', Int.not_lt, Int.not_le, Decidable.not_not, V.u8eq, V.S_inj, V.S_lit, V.S_lit2, V.bl] at g1_6
      try simp only [V.mk0, V.mk1, V.mk2, V.mk3] at g1_6
      refine V.yes rfl rfl rfl ?_
      refine V.loadO T_ok Fk2 rfl rfl rfl rfl rfl ?_
      refine V.run T_ok 1 rfl ?_
      refine V.yes rfl rfl rfl ?_
      refine V.loadO T_ok Fk9 rfl rfl rfl rfl rfl ?_
      refine V.yes rfl rfl rfl ?_
      refine V.call (has_spec (f := f) (t := t) (k := f2) (by first | omega | decide | (simp only [V.S_size, List.length_cons, List.length_nil]; omega)) (by first | omega | decide | (simp only [V.S_size, List.length_cons, List.length_nil]; omega)) (by first | omega | decide | (simp only [V.S_size, List.length_cons, List.length_nil]; omega))) rfl rfl rfl ?_
      rintro _ w21 ⟨rfl, G22⟩
      have z23 := V.Fr.size G22
      try replace Fk2 := Fk2.gr G22
      try replace Fk9 := Fk9.gr G22
      replace HG := HG.grow G22
      clear G22
      refine V.run T_ok 1 rfl ?_
      refine V.split (j := 11) (t := 16) rfl rfl (fun g1_11 => ?_) (fun g1_11 => ?_)
      ·
        try simp only [decide_eq_true_eq, decide_eq_false_iff_not, Bool.or_eq_true, Bool.and_eq_true, Bool.or_eq_false_iff, Bool.and_eq_false_iff, Bool.not_eq_true', Bool.not_eq_false', Int.not_lt, Int.not_le, Decidable.not_not, V.u8eq, V.S_inj, V.S_lit, V.S_lit2, V.bl] at g1_11
        try simp only [V.mk0, V.mk1, V.mk2, V.mk3] at g1_11
        refine V.run T_ok 7 rfl ?_
        refine V.nil ?_
        refine V.tN ?_
        refine V.ret ?_
        refine V.done rfl ?_
        exact ⟨congrArg Value.bool (by (try simp only [V.bl]); (try simp only [V.mk0, V.mk1]); grind [meetB]), HG⟩
      ·
        try simp only [decide_eq_true_eq, decide_eq_false_iff_not, Bool.or_eq_true, Bool.and_eq_true, Bool.or_eq_false_iff, Bool.and_eq_false_iff, Bool.not_eq_true', Bool.not_eq_false', Int.not_lt, Int.not_le, Decidable.not_not, V.u8eq, V.S_inj, V.S_lit, V.S_lit2, V.bl] at g1_11
        try simp only [V.mk0, V.mk1, V.mk2, V.mk3] at g1_11
        refine V.yes rfl rfl rfl ?_
        refine V.loadO T_ok Fk9 rfl rfl rfl rfl rfl ?_
        refine V.run T_ok 1 rfl ?_
        refine V.yes rfl rfl rfl ?_
        refine V.loadO T_ok Fk2 rfl rfl rfl rfl rfl ?_
        refine V.yes rfl rfl rfl ?_
        refine V.call (has_spec (f := f2) (t := t2) (k := f) (by first | omega | decide | (simp only [V.S_size, List.length_cons, List.length_nil]; omega)) (by first | omega | decide | (simp only [V.S_size, List.length_cons, List.length_nil]; omega)) (by first | omega | decide | (simp only [V.S_size, List.length_cons, List.length_nil]; omega))) rfl rfl rfl ?_
        rintro _ w24 ⟨rfl, G25⟩
        have z26 := V.Fr.size G25
        try replace Fk2 := Fk2.gr G25
        try replace Fk9 := Fk9.gr G25
        replace HG := HG.grow G25
        clear G25
        refine V.run T_ok 3 rfl ?_
        refine V.nil ?_
        refine V.tN ?_
        refine V.ret ?_
        refine V.done rfl ?_
        exact ⟨congrArg Value.bool (by (try simp only [V.bl]); (try simp only [V.mk0, V.mk1]); grind [meetB]), HG⟩
    ·
      try simp only [decide_eq_true_eq, decide_eq_false_iff_not, Bool.or_eq_true, Bool.and_eq_true, Bool.or_eq_false_iff, Bool.and_eq_false_iff, Bool.not_eq_true', Bool.not_eq_false', Int.not_lt, Int.not_le, Decidable.not_not, V.u8eq, V.S_inj, V.S_lit, V.S_lit2, V.bl] at g1_6
      try simp only [V.mk0, V.mk1, V.mk2, V.mk3] at g1_6
      refine V.run T_ok 12 rfl ?_
      refine V.nil ?_
      refine V.tN ?_
      refine V.ret ?_
      refine V.done rfl ?_
      exact ⟨congrArg Value.bool (by (try simp only [V.bl]); (try simp only [V.mk0, V.mk1]); grind [meetB]), HG⟩
  ·
    try simp only [decide_eq_true_eq, decide_eq_false_iff_not, Bool.or_eq_true, Bool.and_eq_true, Bool.or_eq_false_iff, Bool.and_eq_false_iff, Bool.not_eq_true', Bool.not_eq_false', Int.not_lt, Int.not_le, Decidable.not_not, V.u8eq, V.S_inj, V.S_lit, V.S_lit2, V.bl] at g1_2
    try simp only [V.mk0, V.mk1, V.mk2, V.mk3] at g1_2
    refine V.run T_ok 16 rfl ?_
    refine V.nil ?_
    refine V.tN ?_
    refine V.ret ?_
    refine V.done rfl ?_
    exact ⟨congrArg Value.bool (by (try simp only [V.bl]); (try simp only [V.mk0, V.mk1]); grind [meetB]), HG⟩

set_option maxHeartbeats 4000000 in
set_option maxRecDepth 10000 in
theorem rright_spec {w : World}  {f : ByteArray} {t : ByteArray} (hf : f.size ≤ 9223372036854775807) (ht : t.size ≤ 9223372036854775807) :
    Meets Try.prog 31 [.agg #[.string f, .string t]] w fun r w' => r = .bool (rightB f t) ∧ Gr w w' := by
  have HG := V.Fr.refl [] w
  refine V.enter (n := 32) Try.func31 rfl rfl (by decide) rfl ?_
  refine V.seq ?_
  refine V.region ?_
  refine V.box rfl rfl rfl rfl ?_
  rintro k1 w3 s5 s6 G4 Fk2
  have z7 := V.Fr.size G4
  replace HG := HG.grow G4
  clear G4
  try simp only [V.cellsL, V.spliceL] at Fk2
  refine V.run T_ok 1 rfl ?_
  refine V.nil ?_
  refine V.tN ?_
  refine V.seq ?_
  refine V.region ?_
  refine V.run T_ok 1 rfl ?_
  refine V.loadO T_ok Fk2 rfl rfl rfl rfl rfl ?_
  refine V.call (rkey_spec (s := f) (by first | omega | decide | (simp only [V.S_size, List.length_cons, List.length_nil]; omega))) rfl rfl rfl ?_
  rintro _ w3_ ⟨rfl, rfl⟩
  refine V.run T_ok 1 rfl ?_
  refine V.nil ?_
  refine V.tN ?_
  refine V.seq ?_
  refine V.region ?_
  refine V.run T_ok 1 rfl ?_
  refine V.loadO T_ok Fk2 rfl rfl rfl rfl rfl ?_
  refine V.call (rkey_spec (s := t) (by first | omega | decide | (simp only [V.S_size, List.length_cons, List.length_nil]; omega))) rfl rfl rfl ?_
  rintro _ w3_ ⟨rfl, rfl⟩
  refine V.run T_ok 1 rfl ?_
  refine V.nil ?_
  refine V.tN ?_
  refine V.seq ?_
  refine V.region ?_
  refine V.run T_ok 2 rfl ?_
  refine V.split (j := 1) (t := 12) rfl rfl (fun g3_1 => ?_) (fun g3_1 => ?_)
  ·
    try simp only [decide_eq_true_eq, decide_eq_false_iff_not, Bool.or_eq_true, Bool.and_eq_true, Bool.or_eq_false_iff, Bool.and_eq_false_iff, Bool.not_eq_true', Bool.not_eq_false', Int.not_lt, Int.not_le, Decidable.not_not, V.u8eq, V.S_inj, V.S_lit, V.S_lit2, V.bl] at g3_1
    try simp only [V.mk0, V.mk1, V.mk2, V.mk3] at g3_1
    refine V.run T_ok 1 rfl ?_
    refine V.yes rfl rfl rfl ?_
    refine V.loadO T_ok Fk2 rfl rfl rfl rfl rfl ?_
    refine V.run T_ok 2 rfl ?_
    refine V.split (j := 5) (t := 16) rfl rfl (fun g3_5 => ?_) (fun g3_5 => ?_)
    ·
      try simp only [decide_eq_true_eq, decide_eq_false_iff_not, Bool.or_eq_true, Bool.and_eq_true, Bool.or_eq_false_iff, Bool.and_eq_false_iff, Bool.not_eq_true', Bool.not_eq_false', Int.not_lt, Int.not_le, Decidable.not_not, V.u8eq, V.S_inj, V.S_lit, V.S_lit2, V.bl] at g3_5
      try simp only [V.mk0, V.mk1, V.mk2, V.mk3] at g3_5
      refine V.run T_ok 16 rfl ?_
      refine V.nil ?_
      refine V.tN ?_
      refine V.ret ?_
      refine V.done rfl ?_
      exact ⟨congrArg Value.bool (by (try simp only [V.bl]); (try simp only [V.mk0, V.mk1]); grind [rightB]), HG⟩
    ·
      try simp only [decide_eq_true_eq, decide_eq_false_iff_not, Bool.or_eq_true, Bool.and_eq_true, Bool.or_eq_false_iff, Bool.and_eq_false_iff, Bool.not_eq_true', Bool.not_eq_false', Int.not_lt, Int.not_le, Decidable.not_not, V.u8eq, V.S_inj, V.S_lit, V.S_lit2, V.bl] at g3_5
      try simp only [V.mk0, V.mk1, V.mk2, V.mk3] at g3_5
      refine V.run T_ok 2 rfl ?_
      refine V.split (j := 7) (t := 18) rfl rfl (fun g3_7 => ?_) (fun g3_7 => ?_)
      ·
        try simp only [decide_eq_true_eq, decide_eq_false_iff_not, Bool.or_eq_true, Bool.and_eq_true, Bool.or_eq_false_iff, Bool.and_eq_false_iff, Bool.not_eq_true', Bool.not_eq_false', Int.not_lt, Int.not_le, Decidable.not_not, V.u8eq, V.S_inj, V.S_lit, V.S_lit2, V.bl] at g3_7
        try simp only [V.mk0, V.mk1, V.mk2, V.mk3] at g3_7
        refine V.run T_ok 6 rfl ?_
        refine V.yes rfl rfl rfl ?_
        refine V.loadO T_ok Fk2 rfl rfl rfl rfl rfl ?_
        refine V.run T_ok 1 rfl ?_
        refine V.yes rfl rfl rfl ?_
        refine V.loadO T_ok Fk2 rfl rfl rfl rfl rfl ?_
        refine V.run T_ok 5 rfl ?_
        refine V.nil ?_
        refine V.tN ?_
        refine V.ret ?_
        refine V.done rfl ?_
        exact ⟨congrArg Value.bool (by (try simp only [V.bl]); (try simp only [V.mk0, V.mk1]); grind [rightB]), HG⟩
      ·
        try simp only [decide_eq_true_eq, decide_eq_false_iff_not, Bool.or_eq_true, Bool.and_eq_true, Bool.or_eq_false_iff, Bool.and_eq_false_iff, Bool.not_eq_true', Bool.not_eq_false', Int.not_lt, Int.not_le, Decidable.not_not, V.u8eq, V.S_inj, V.S_lit, V.S_lit2, V.bl] at g3_7
        try simp only [V.mk0, V.mk1, V.mk2, V.mk3] at g3_7
        refine V.run T_ok 1 rfl ?_
        refine V.yes rfl rfl rfl ?_
        refine V.loadO T_ok Fk2 rfl rfl rfl rfl rfl ?_
        refine V.run T_ok 3 rfl ?_
        refine V.split (j := 12) (t := 23) rfl rfl (fun g3_12 => ?_) (fun g3_12 => ?_)
        ·
          try simp only [decide_eq_true_eq, decide_eq_false_iff_not, Bool.or_eq_true, Bool.and_eq_true, Bool.or_eq_false_iff, Bool.and_eq_false_iff, Bool.not_eq_true', Bool.not_eq_false', Int.not_lt, Int.not_le, Decidable.not_not, V.u8eq, V.S_inj, V.S_lit, V.S_lit2, V.bl] at g3_12
          try simp only [V.mk0, V.mk1, V.mk2, V.mk3] at g3_12
          refine V.run T_ok 1 rfl ?_
          refine V.yes rfl rfl rfl ?_
          refine V.loadO T_ok Fk2 rfl rfl rfl rfl rfl ?_
          refine V.run T_ok 1 rfl ?_
          refine V.yes rfl rfl rfl ?_
          refine V.loadO T_ok Fk2 rfl rfl rfl rfl rfl ?_
          refine V.run T_ok 5 rfl ?_
          refine V.nil ?_
          refine V.tN ?_
          refine V.ret ?_
          refine V.done rfl ?_
          exact ⟨congrArg Value.bool (by (try simp only [V.bl]); (try simp only [V.mk0, V.mk1]); grind [rightB]), HG⟩
        ·
          try simp only [decide_eq_true_eq, decide_eq_false_iff_not, Bool.or_eq_true, Bool.and_eq_true, Bool.or_eq_false_iff, Bool.and_eq_false_iff, Bool.not_eq_true', Bool.not_eq_false', Int.not_lt, Int.not_le, Decidable.not_not, V.u8eq, V.S_inj, V.S_lit, V.S_lit2, V.bl] at g3_12
          try simp only [V.mk0, V.mk1, V.mk2, V.mk3] at g3_12
          refine V.run T_ok 9 rfl ?_
          refine V.nil ?_
          refine V.tN ?_
          refine V.ret ?_
          refine V.done rfl ?_
          exact ⟨congrArg Value.bool (by (try simp only [V.bl]); (try simp only [V.mk0, V.mk1]); grind [rightB]), HG⟩
  ·
    try simp only [decide_eq_true_eq, decide_eq_false_iff_not, Bool.or_eq_true, Bool.and_eq_true, Bool.or_eq_false_iff, Bool.and_eq_false_iff, Bool.not_eq_true', Bool.not_eq_false', Int.not_lt, Int.not_le, Decidable.not_not, V.u8eq, V.S_inj, V.S_lit, V.S_lit2, V.bl] at g3_1
    try simp only [V.mk0, V.mk1, V.mk2, V.mk3] at g3_1
    refine V.run T_ok 20 rfl ?_
    refine V.nil ?_
    refine V.tN ?_
    refine V.ret ?_
    refine V.done rfl ?_
    exact ⟨congrArg Value.bool (by (try simp only [V.bl]); (try simp only [V.mk0, V.mk1]); grind [rightB]), HG⟩

set_option maxHeartbeats 4000000 in
set_option maxRecDepth 10000 in
theorem rhas_spec {w : World}  {f : ByteArray} {t : ByteArray} {k : ByteArray} (hf : f.size ≤ 9223372036854775807) (ht : t.size ≤ 9223372036854775807) (hk : k.size ≤ 9223372036854775807) :
    Meets Try.prog 26 [.agg #[.string f, .string t], .string k] w fun r w' => r = .bool (hasB f t k) ∧ Gr w w' := by
  have HG := V.Fr.refl [] w
  refine V.enter (n := 40) Try.func26 rfl rfl (by decide) rfl ?_
  refine V.seq ?_
  refine V.region ?_
  refine V.box rfl rfl rfl rfl ?_
  rintro k1 w3 s5 s6 G4 Fk2
  have z7 := V.Fr.size G4
  replace HG := HG.grow G4
  clear G4
  try simp only [V.cellsL, V.spliceL] at Fk2
  refine V.run T_ok 1 rfl ?_
  refine V.nil ?_
  refine V.tN ?_
  refine V.seq ?_
  refine V.region ?_
  refine V.loadO T_ok Fk2 rfl rfl rfl rfl rfl ?_
  refine V.call (rright_spec (f := f) (t := t) (by first | omega | decide | (simp only [V.S_size, List.length_cons, List.length_nil]; omega)) (by first | omega | decide | (simp only [V.S_size, List.length_cons, List.length_nil]; omega))) rfl rfl rfl ?_
  rintro _ w8 ⟨rfl, G9⟩
  have z10 := V.Fr.size G9
  try replace Fk2 := Fk2.gr G9
  replace HG := HG.grow G9
  clear G9
  refine V.run T_ok 1 rfl ?_
  refine V.nil ?_
  refine V.tN ?_
  refine V.seq ?_
  refine V.region ?_
  refine V.run T_ok 1 rfl ?_
  refine V.call (rkey_spec (s := k) (by first | omega | decide | (simp only [V.S_size, List.length_cons, List.length_nil]; omega))) rfl rfl rfl ?_
  rintro _ w8_ ⟨rfl, rfl⟩
  refine V.run T_ok 1 rfl ?_
  refine V.nil ?_
  refine V.tN ?_
  refine V.seq ?_
  refine V.seq ?_
  refine V.region ?_
  refine V.run T_ok 1 rfl ?_
  refine V.loadO T_ok Fk2 rfl rfl rfl rfl rfl ?_
  refine V.run T_ok 1 rfl ?_
  refine V.nil ?_
  refine V.tN ?_
  refine V.condT rfl (fun h3 => ?_) (fun h3 => ?_)
  ·
    try simp only [decide_eq_true_eq, decide_eq_false_iff_not, Bool.or_eq_true, Bool.and_eq_true, Bool.or_eq_false_iff, Bool.and_eq_false_iff, Bool.not_eq_true', Bool.not_eq_false', Int.not_lt, Int.not_le, Decidable.not_not, V.u8eq, V.S_inj, V.S_lit, V.S_lit2, V.bl] at h3
    try simp only [V.mk0, V.mk1, V.mk2, V.mk3] at h3
    refine V.seq ?_
    refine V.region ?_
    refine V.run T_ok 2 rfl ?_
    refine V.andG T_ok 1 1 15 rfl rfl rfl rfl rfl rfl rfl rfl ?_
    refine V.run T_ok 1 rfl ?_
    refine V.split (j := 4) (t := 18) rfl rfl (fun g4_4 => ?_) (fun g4_4 => ?_)
    ·
      try simp only [decide_eq_true_eq, decide_eq_false_iff_not, Bool.or_eq_true, Bool.and_eq_true, Bool.or_eq_false_iff, Bool.and_eq_false_iff, Bool.not_eq_true', Bool.not_eq_false', Int.not_lt, Int.not_le, Decidable.not_not, V.u8eq, V.S_inj, V.S_lit, V.S_lit2, V.bl] at g4_4
      try simp only [V.mk0, V.mk1, V.mk2, V.mk3] at g4_4
      refine V.run T_ok 2 rfl ?_
      refine V.yes rfl rfl rfl ?_
      refine V.loadO T_ok Fk2 rfl rfl rfl rfl rfl ?_
      refine V.run T_ok 3 rfl ?_
      refine V.nil ?_
      refine V.tN ?_
      refine V.ret ?_
      refine V.tR ?_
      refine V.done rfl ?_
      exact ⟨congrArg Value.bool (by (try simp only [V.bl]); (try simp only [V.mk0, V.mk1]); grind [hasB]), HG⟩
    ·
      try simp only [decide_eq_true_eq, decide_eq_false_iff_not, Bool.or_eq_true, Bool.and_eq_true, Bool.or_eq_false_iff, Bool.and_eq_false_iff, Bool.not_eq_true', Bool.not_eq_false', Int.not_lt, Int.not_le, Decidable.not_not, V.u8eq, V.S_inj, V.S_lit, V.S_lit2, V.bl] at g4_4
      try simp only [V.mk0, V.mk1, V.mk2, V.mk3] at g4_4
      refine V.run T_ok 6 rfl ?_
      refine V.nil ?_
      refine V.tN ?_
      refine V.ret ?_
      refine V.tR ?_
      refine V.done rfl ?_
      exact ⟨congrArg Value.bool (by (try simp only [V.bl]); (try simp only [V.mk0, V.mk1]); grind [hasB]), HG⟩
  ·
    try simp only [decide_eq_true_eq, decide_eq_false_iff_not, Bool.or_eq_true, Bool.and_eq_true, Bool.or_eq_false_iff, Bool.and_eq_false_iff, Bool.not_eq_true', Bool.not_eq_false', Int.not_lt, Int.not_le, Decidable.not_not, V.u8eq, V.S_inj, V.S_lit, V.S_lit2, V.bl] at h3
    try simp only [V.mk0, V.mk1, V.mk2, V.mk3] at h3
    refine V.skip ?_
    refine V.tN ?_
    refine V.seq ?_
    refine V.region ?_
    refine V.run T_ok 2 rfl ?_
    refine V.andG T_ok 1 1 25 rfl rfl rfl rfl rfl rfl rfl rfl ?_
    refine V.run T_ok 1 rfl ?_
    refine V.split (j := 4) (t := 28) rfl rfl (fun g5_4 => ?_) (fun g5_4 => ?_)
    ·
      try simp only [decide_eq_true_eq, decide_eq_false_iff_not, Bool.or_eq_true, Bool.and_eq_true, Bool.or_eq_false_iff, Bool.and_eq_false_iff, Bool.not_eq_true', Bool.not_eq_false', Int.not_lt, Int.not_le, Decidable.not_not, V.u8eq, V.S_inj, V.S_lit, V.S_lit2, V.bl] at g5_4
      try simp only [V.mk0, V.mk1, V.mk2, V.mk3] at g5_4
      refine V.run T_ok 2 rfl ?_
      refine V.yes rfl rfl rfl ?_
      refine V.loadO T_ok Fk2 rfl rfl rfl rfl rfl ?_
      refine V.run T_ok 3 rfl ?_
      refine V.split (j := 10) (t := 34) rfl rfl (fun g5_10 => ?_) (fun g5_10 => ?_)
      ·
        try simp only [decide_eq_true_eq, decide_eq_false_iff_not, Bool.or_eq_true, Bool.and_eq_true, Bool.or_eq_false_iff, Bool.and_eq_false_iff, Bool.not_eq_true', Bool.not_eq_false', Int.not_lt, Int.not_le, Decidable.not_not, V.u8eq, V.S_inj, V.S_lit, V.S_lit2, V.bl] at g5_10
        try simp only [V.mk0, V.mk1, V.mk2, V.mk3] at g5_10
        refine V.run T_ok 2 rfl ?_
        refine V.yes rfl rfl rfl ?_
        refine V.loadO T_ok Fk2 rfl rfl rfl rfl rfl ?_
        refine V.run T_ok 3 rfl ?_
        refine V.nil ?_
        refine V.tN ?_
        refine V.ret ?_
        refine V.done rfl ?_
        exact ⟨congrArg Value.bool (by (try simp only [V.bl]); (try simp only [V.mk0, V.mk1]); grind [hasB]), HG⟩
      ·
        try simp only [decide_eq_true_eq, decide_eq_false_iff_not, Bool.or_eq_true, Bool.and_eq_true, Bool.or_eq_false_iff, Bool.and_eq_false_iff, Bool.not_eq_true', Bool.not_eq_false', Int.not_lt, Int.not_le, Decidable.not_not, V.u8eq, V.S_inj, V.S_lit, V.S_lit2, V.bl] at g5_10
        try simp only [V.mk0, V.mk1, V.mk2, V.mk3] at g5_10
        refine V.run T_ok 6 rfl ?_
        refine V.nil ?_
        refine V.tN ?_
        refine V.ret ?_
        refine V.done rfl ?_
        exact ⟨congrArg Value.bool (by (try simp only [V.bl]); (try simp only [V.mk0, V.mk1]); grind [hasB]), HG⟩
    ·
      try simp only [decide_eq_true_eq, decide_eq_false_iff_not, Bool.or_eq_true, Bool.and_eq_true, Bool.or_eq_false_iff, Bool.and_eq_false_iff, Bool.not_eq_true', Bool.not_eq_false', Int.not_lt, Int.not_le, Decidable.not_not, V.u8eq, V.S_inj, V.S_lit, V.S_lit2, V.bl] at g5_4
      try simp only [V.mk0, V.mk1, V.mk2, V.mk3] at g5_4
      refine V.run T_ok 12 rfl ?_
      refine V.nil ?_
      refine V.tN ?_
      refine V.ret ?_
      refine V.done rfl ?_
      exact ⟨congrArg Value.bool (by (try simp only [V.bl]); (try simp only [V.mk0, V.mk1]); grind [hasB]), HG⟩

set_option maxHeartbeats 4000000 in
set_option maxRecDepth 10000 in
theorem rmeet_spec {w : World}  {f : ByteArray} {t : ByteArray} {f2 : ByteArray} {t2 : ByteArray} (hf : f.size ≤ 9223372036854775807) (ht : t.size ≤ 9223372036854775807) (hf2 : f2.size ≤ 9223372036854775807) (ht2 : t2.size ≤ 9223372036854775807) :
    Meets Try.prog 32 [.agg #[.string f, .string t], .agg #[.string f2, .string t2]] w fun r w' => r = .bool (meetB f t f2 t2) ∧ Gr w w' := by
  have HG := V.Fr.refl [] w
  refine V.enter (n := 31) Try.func32 rfl rfl (by decide) rfl ?_
  refine V.seq ?_
  refine V.region ?_
  refine V.box rfl rfl rfl rfl ?_
  rintro k1 w3 s5 s6 G4 Fk2
  have z7 := V.Fr.size G4
  replace HG := HG.grow G4
  clear G4
  try simp only [V.cellsL, V.spliceL] at Fk2
  refine V.box rfl rfl rfl rfl ?_
  rintro k8 w10 s12 s13 G11 Fk9
  have z14 := V.Fr.size G11
  try replace Fk2 := Fk2.gr G11
  replace HG := HG.grow G11
  clear G11
  try simp only [V.cellsL, V.spliceL] at Fk9
  refine V.run T_ok 1 rfl ?_
  refine V.nil ?_
  refine V.tN ?_
  refine V.seq ?_
  refine V.region ?_
  refine V.loadO T_ok Fk2 rfl rfl rfl rfl rfl ?_
  refine V.run T_ok 1 rfl ?_
  refine V.loadO T_ok Fk9 rfl rfl rfl rfl rfl ?_
  refine V.call (rhas_spec (f := f) (t := t) (k := f2) (by first | omega | decide | (simp only [V.S_size, List.length_cons, List.length_nil]; omega)) (by first | omega | decide | (simp only [V.S_size, List.length_cons, List.length_nil]; omega)) (by first | omega | decide | (simp only [V.S_size, List.length_cons, List.length_nil]; omega))) rfl rfl rfl ?_
  rintro _ w15 ⟨rfl, G16⟩
  have z17 := V.Fr.size G16
  try replace Fk2 := Fk2.gr G16
  try replace Fk9 := Fk9.gr G16
  replace HG := HG.grow G16
  clear G16
  refine V.run T_ok 1 rfl ?_
  refine V.nil ?_
  refine V.tN ?_
  refine V.seq ?_
  refine V.region ?_
  refine V.loadO T_ok Fk9 rfl rfl rfl rfl rfl ?_
  refine V.run T_ok 1 rfl ?_
  refine V.loadO T_ok Fk2 rfl rfl rfl rfl rfl ?_
  refine V.call (rhas_spec (f := f2) (t := t2) (k := f) (by first | omega | decide | (simp only [V.S_size, List.length_cons, List.length_nil]; omega)) (by first | omega | decide | (simp only [V.S_size, List.length_cons, List.length_nil]; omega)) (by first | omega | decide | (simp only [V.S_size, List.length_cons, List.length_nil]; omega))) rfl rfl rfl ?_
  rintro _ w18 ⟨rfl, G19⟩
  have z20 := V.Fr.size G19
  try replace Fk2 := Fk2.gr G19
  try replace Fk9 := Fk9.gr G19
  replace HG := HG.grow G19
  clear G19
  refine V.run T_ok 1 rfl ?_
  refine V.nil ?_
  refine V.tN ?_
  refine V.seq ?_
  refine V.region ?_
  refine V.loadO T_ok Fk2 rfl rfl rfl rfl rfl ?_
  refine V.call (rright_spec (f := f) (t := t) (by first | omega | decide | (simp only [V.S_size, List.length_cons, List.length_nil]; omega)) (by first | omega | decide | (simp only [V.S_size, List.length_cons, List.length_nil]; omega))) rfl rfl rfl ?_
  rintro _ w21 ⟨rfl, G22⟩
  have z23 := V.Fr.size G22
  try replace Fk2 := Fk2.gr G22
  try replace Fk9 := Fk9.gr G22
  replace HG := HG.grow G22
  clear G22
  refine V.run T_ok 1 rfl ?_
  refine V.nil ?_
  refine V.tN ?_
  refine V.seq ?_
  refine V.region ?_
  refine V.loadO T_ok Fk9 rfl rfl rfl rfl rfl ?_
  refine V.call (rright_spec (f := f2) (t := t2) (by first | omega | decide | (simp only [V.S_size, List.length_cons, List.length_nil]; omega)) (by first | omega | decide | (simp only [V.S_size, List.length_cons, List.length_nil]; omega))) rfl rfl rfl ?_
  rintro _ w24 ⟨rfl, G25⟩
  have z26 := V.Fr.size G25
  try replace Fk2 := Fk2.gr G25
  try replace Fk9 := Fk9.gr G25
  replace HG := HG.grow G25
  clear G25
  refine V.run T_ok 1 rfl ?_
  refine V.nil ?_
  refine V.tN ?_
  refine V.seq ?_
  refine V.region ?_
  refine V.run T_ok 2 rfl ?_
  refine V.andG T_ok 1 1 22 rfl rfl rfl rfl rfl rfl rfl rfl ?_
  refine V.run T_ok 1 rfl ?_
  refine V.split (j := 4) (t := 25) rfl rfl (fun g5_4 => ?_) (fun g5_4 => ?_)
  ·
    try simp only [decide_eq_true_eq, decide_eq_false_iff_not, Bool.or_eq_true, Bool.and_eq_true, Bool.or_eq_false_iff, Bool.and_eq_false_iff, Bool.not_eq_true', Bool.not_eq_false', Int.not_lt, Int.not_le, Decidable.not_not, V.u8eq, V.S_inj, V.S_lit, V.S_lit2, V.bl] at g5_4
    try simp only [V.mk0, V.mk1, V.mk2, V.mk3] at g5_4
    refine V.run T_ok 2 rfl ?_
    refine V.split (j := 6) (t := 27) rfl rfl (fun g5_6 => ?_) (fun g5_6 => ?_)
    ·
      try simp only [decide_eq_true_eq, decide_eq_false_iff_not, Bool.or_eq_true, Bool.and_eq_true, Bool.or_eq_false_iff, Bool.and_eq_false_iff, Bool.not_eq_true', Bool.not_eq_false', Int.not_lt, Int.not_le, Decidable.not_not, V.u8eq, V.S_inj, V.S_lit, V.S_lit2, V.bl] at g5_6
      try simp only [V.mk0, V.mk1, V.mk2, V.mk3] at g5_6
      refine V.run T_ok 4 rfl ?_
      refine V.nil ?_
      refine V.tN ?_
      refine V.ret ?_
      refine V.done rfl ?_
      exact ⟨congrArg Value.bool (by (try simp only [V.bl]); (try simp only [V.mk0, V.mk1]); grind [meetB]), HG⟩
    ·
      try simp only [decide_eq_true_eq, decide_eq_false_iff_not, Bool.or_eq_true, Bool.and_eq_true, Bool.or_eq_false_iff, Bool.and_eq_false_iff, Bool.not_eq_true', Bool.not_eq_false', Int.not_lt, Int.not_le, Decidable.not_not, V.u8eq, V.S_inj, V.S_lit, V.S_lit2, V.bl] at g5_6
      try simp only [V.mk0, V.mk1, V.mk2, V.mk3] at g5_6
      refine V.run T_ok 4 rfl ?_
      refine V.nil ?_
      refine V.tN ?_
      refine V.ret ?_
      refine V.done rfl ?_
      exact ⟨congrArg Value.bool (by (try simp only [V.bl]); (try simp only [V.mk0, V.mk1]); grind [meetB]), HG⟩
  ·
    try simp only [decide_eq_true_eq, decide_eq_false_iff_not, Bool.or_eq_true, Bool.and_eq_true, Bool.or_eq_false_iff, Bool.and_eq_false_iff, Bool.not_eq_true', Bool.not_eq_false', Int.not_lt, Int.not_le, Decidable.not_not, V.u8eq, V.S_inj, V.S_lit, V.S_lit2, V.bl] at g5_4
    try simp only [V.mk0, V.mk1, V.mk2, V.mk3] at g5_4
    refine V.run T_ok 6 rfl ?_
    refine V.nil ?_
    refine V.tN ?_
    refine V.ret ?_
    refine V.done rfl ?_
    exact ⟨congrArg Value.bool (by (try simp only [V.bl]); (try simp only [V.mk0, V.mk1]); grind [meetB]), HG⟩


def clipR (f t f' t' : ByteArray) : ByteArray × ByteArray := if meetB f t f' t' = true then clipV f t f' t' else (S [], S [])

set_option maxHeartbeats 4000000 in
set_option maxRecDepth 10000 in
theorem all_spec {w : World}    :
    Meets Try.prog 20 [] w fun r w' => r = .agg #[.string (S [97]), .string (S [123])] ∧ Gr w w' := by
  have HG := V.Fr.refl [] w
  refine V.enter (n := 2) Try.func20 rfl rfl (by decide) rfl ?_
  refine V.seq ?_
  refine V.region ?_
  refine V.alloc zero24 rfl rfl rfl ?_
  rintro k1 w3 s5 s6 G4 Fk2
  have z7 := V.Fr.size G4
  replace HG := HG.grow G4
  clear G4
  try simp only [V.cellsL, V.spliceL] at Fk2
  refine V.nil ?_
  refine V.tN ?_
  refine V.seq ?_
  refine V.region ?_
  refine V.mkStruct T_ok zero24 rfl rfl rfl rfl rfl ?_
  refine V.storeO Fk2 rfl rfl rfl rfl sz24 rfl rfl rfl rfl ?_
  rintro w8 G9 z11 Fs10
  clear Fk2
  have z12 := V.Fr.size G9
  replace HG := HG.new1 G9 (by first | (refine Or.inr ?_; omega) | (refine Or.inl ?_; simp; done))
  clear G9
  have Fk2 := Fs10; clear Fs10
  simp only [V.spliceL, V.cellsL] at Fk2
  refine V.nil ?_
  refine V.tN ?_
  refine V.ret ?_
  refine V.done1 rfl (V.resV_cell T_ok Fk2 rfl rfl) ?_
  exact ⟨(by first | rfl | simp only [List.length_set]), HG⟩

set_option maxHeartbeats 4000000 in
set_option maxRecDepth 10000 in
theorem clip_spec {w : World}  {f : ByteArray} {t : ByteArray} {f2 : ByteArray} {t2 : ByteArray} (hf : f.size ≤ 9223372036854775807) (ht : t.size ≤ 9223372036854775807) (hf2 : f2.size ≤ 9223372036854775807) (ht2 : t2.size ≤ 9223372036854775807) :
    Meets Try.prog 27 [.agg #[.string f, .string t], .agg #[.string f2, .string t2]] w fun r w' => r = .tuple #[.agg #[.string ((clipR f t f2 t2).1), .string ((clipR f t f2 t2).2)], .bool (meetB f t f2 t2)] ∧ Gr w w' := by
  have HG := V.Fr.refl [] w
  refine V.enter (n := 33) Try.func27 rfl rfl (by decide) rfl ?_
  refine V.seq ?_
  refine V.region ?_
  refine V.box rfl rfl rfl rfl ?_
  rintro k1 w3 s5 s6 G4 Fk2
  have z7 := V.Fr.size G4
  replace HG := HG.grow G4
  clear G4
  try simp only [V.cellsL, V.spliceL] at Fk2
  refine V.box rfl rfl rfl rfl ?_
  rintro k8 w10 s12 s13 G11 Fk9
  have z14 := V.Fr.size G11
  try replace Fk2 := Fk2.gr G11
  replace HG := HG.grow G11
  clear G11
  try simp only [V.cellsL, V.spliceL] at Fk9
  refine V.alloc zero24 rfl rfl rfl ?_
  rintro k15 w17 s19 s20 G18 Fk16
  have z21 := V.Fr.size G18
  try replace Fk2 := Fk2.gr G18
  try replace Fk9 := Fk9.gr G18
  replace HG := HG.grow G18
  clear G18
  try simp only [V.cellsL, V.spliceL] at Fk16
  refine V.run T_ok 1 rfl ?_
  refine V.nil ?_
  refine V.tN ?_
  refine V.seq ?_
  refine V.block ?_
  refine V.seq ?_
  refine V.region ?_
  refine V.loadO T_ok Fk2 rfl rfl rfl rfl rfl ?_
  refine V.loadO T_ok Fk9 rfl rfl rfl rfl rfl ?_
  refine V.call (meet_spec (f := f) (t := t) (f2 := f2) (t2 := t2) (by first | omega | decide | (simp only [V.S_size, List.length_cons, List.length_nil]; omega)) (by first | omega | decide | (simp only [V.S_size, List.length_cons, List.length_nil]; omega)) (by first | omega | decide | (simp only [V.S_size, List.length_cons, List.length_nil]; omega)) (by first | omega | decide | (simp only [V.S_size, List.length_cons, List.length_nil]; omega))) rfl rfl rfl ?_
  rintro _ w22 ⟨rfl, G23⟩
  have z24 := V.Fr.size G23
  try replace Fk2 := Fk2.gr G23
  try replace Fk9 := Fk9.gr G23
  try replace Fk16 := Fk16.gr G23
  replace HG := HG.grow G23
  clear G23
  refine V.run T_ok 2 rfl ?_
  refine V.nil ?_
  refine V.tN ?_
  refine V.condT rfl (fun h1 => ?_) (fun h1 => ?_)
  ·
    try simp only [decide_eq_true_eq, decide_eq_false_iff_not, Bool.or_eq_true, Bool.and_eq_true, Bool.or_eq_false_iff, Bool.and_eq_false_iff, Bool.not_eq_true', Bool.not_eq_false', Int.not_lt, Int.not_le, Decidable.not_not, V.u8eq, V.S_inj, V.S_lit, V.S_lit2, V.bl] at h1
    try simp only [V.mk0, V.mk1, V.mk2, V.mk3] at h1
    refine V.seq ?_
    refine V.region ?_
    refine V.mkStruct T_ok zero24 rfl rfl rfl rfl rfl ?_
    refine V.storeO Fk16 rfl rfl rfl rfl sz24 rfl rfl rfl rfl ?_
    rintro w25 G26 z28 Fs27
    clear Fk16
    have z29 := V.Fr.size G26
    first | replace Fk2 := Fk2.mv1 G26 (by omega) | clear Fk2 | skip
    first | replace Fk9 := Fk9.mv1 G26 (by omega) | clear Fk9 | skip
    replace HG := HG.new1 G26 (by first | (refine Or.inr ?_; omega) | (refine Or.inl ?_; simp; done))
    clear G26
    have Fk16 := Fs27; clear Fs27
    simp only [V.spliceL, V.cellsL] at Fk16
    refine V.run T_ok 1 rfl ?_
    refine V.nil ?_
    refine V.tN ?_
    refine V.ret ?_
    refine V.bR ?_
    refine V.tR ?_
    refine V.done2 rfl (V.resV_cell T_ok Fk16 rfl rfl) (V.resV_tmp rfl) ?_
    rw [show clipR f t f2 t2 = (S [], S []) by (try simp only [V.mk0, V.mk1] at *); grind [clipR, clipV], show meetB f t f2 t2 = false by grind]
    exact ⟨(by first | rfl | simp only [List.length_set]), HG⟩
  ·
    try simp only [decide_eq_true_eq, decide_eq_false_iff_not, Bool.or_eq_true, Bool.and_eq_true, Bool.or_eq_false_iff, Bool.and_eq_false_iff, Bool.not_eq_true', Bool.not_eq_false', Int.not_lt, Int.not_le, Decidable.not_not, V.u8eq, V.S_inj, V.S_lit, V.S_lit2, V.bl] at h1
    try simp only [V.mk0, V.mk1, V.mk2, V.mk3] at h1
    refine V.seq ?_
    refine V.region ?_
    refine V.run T_ok 1 rfl ?_
    refine V.loadO T_ok Fk2 rfl rfl rfl rfl rfl ?_
    refine V.run T_ok 2 rfl ?_
    refine V.nil ?_
    refine V.tN ?_
    refine V.condT rfl (fun h3 => ?_) (fun h3 => ?_)
    ·
      try simp only [decide_eq_true_eq, decide_eq_false_iff_not, Bool.or_eq_true, Bool.and_eq_true, Bool.or_eq_false_iff, Bool.and_eq_false_iff, Bool.not_eq_true', Bool.not_eq_false', Int.not_lt, Int.not_le, Decidable.not_not, V.u8eq, V.S_inj, V.S_lit, V.S_lit2, V.bl] at h3
      try simp only [V.mk0, V.mk1, V.mk2, V.mk3] at h3
      refine V.seq ?_
      refine V.region ?_
      refine V.loadO T_ok Fk2 rfl rfl rfl rfl rfl ?_
      refine V.storeO Fk16 rfl rfl rfl rfl sz24 rfl rfl rfl rfl ?_
      rintro w30 G31 z33 Fs32
      clear Fk16
      have z34 := V.Fr.size G31
      first | replace Fk2 := Fk2.mv1 G31 (by omega) | clear Fk2 | skip
      first | replace Fk9 := Fk9.mv1 G31 (by omega) | clear Fk9 | skip
      replace HG := HG.new1 G31 (by first | (refine Or.inr ?_; omega) | (refine Or.inl ?_; simp; done))
      clear G31
      have Fk16 := Fs32; clear Fs32
      simp only [V.spliceL, V.cellsL] at Fk16
      refine V.run T_ok 1 rfl ?_
      refine V.nil ?_
      refine V.tN ?_
      refine V.ret ?_
      refine V.bR ?_
      refine V.tR ?_
      refine V.done2 rfl (V.resV_cell T_ok Fk16 rfl rfl) (V.resV_tmp rfl) ?_
      rw [show clipR f t f2 t2 = (f, t) by (try simp only [V.mk0, V.mk1] at *); grind [clipR, clipV], show meetB f t f2 t2 = true by grind]
      exact ⟨(by first | rfl | simp only [List.length_set]), HG⟩
    ·
      try simp only [decide_eq_true_eq, decide_eq_false_iff_not, Bool.or_eq_true, Bool.and_eq_true, Bool.or_eq_false_iff, Bool.and_eq_false_iff, Bool.not_eq_true', Bool.not_eq_false', Int.not_lt, Int.not_le, Decidable.not_not, V.u8eq, V.S_inj, V.S_lit, V.S_lit2, V.bl] at h3
      try simp only [V.mk0, V.mk1, V.mk2, V.mk3] at h3
      refine V.seq ?_
      refine V.region ?_
      refine V.run T_ok 1 rfl ?_
      refine V.loadO T_ok Fk9 rfl rfl rfl rfl rfl ?_
      refine V.run T_ok 2 rfl ?_
      refine V.nil ?_
      refine V.tN ?_
      refine V.condT rfl (fun h5 => ?_) (fun h5 => ?_)
      ·
        try simp only [decide_eq_true_eq, decide_eq_false_iff_not, Bool.or_eq_true, Bool.and_eq_true, Bool.or_eq_false_iff, Bool.and_eq_false_iff, Bool.not_eq_true', Bool.not_eq_false', Int.not_lt, Int.not_le, Decidable.not_not, V.u8eq, V.S_inj, V.S_lit, V.S_lit2, V.bl] at h5
        try simp only [V.mk0, V.mk1, V.mk2, V.mk3] at h5
        refine V.seq ?_
        refine V.region ?_
        refine V.loadO T_ok Fk9 rfl rfl rfl rfl rfl ?_
        refine V.storeO Fk16 rfl rfl rfl rfl sz24 rfl rfl rfl rfl ?_
        rintro w35 G36 z38 Fs37
        clear Fk16
        have z39 := V.Fr.size G36
        first | replace Fk2 := Fk2.mv1 G36 (by omega) | clear Fk2 | skip
        first | replace Fk9 := Fk9.mv1 G36 (by omega) | clear Fk9 | skip
        replace HG := HG.new1 G36 (by first | (refine Or.inr ?_; omega) | (refine Or.inl ?_; simp; done))
        clear G36
        have Fk16 := Fs37; clear Fs37
        simp only [V.spliceL, V.cellsL] at Fk16
        refine V.run T_ok 1 rfl ?_
        refine V.nil ?_
        refine V.tN ?_
        refine V.ret ?_
        refine V.bR ?_
        refine V.tR ?_
        refine V.done2 rfl (V.resV_cell T_ok Fk16 rfl rfl) (V.resV_tmp rfl) ?_
        rw [show clipR f t f2 t2 = (f2, t2) by (try simp only [V.mk0, V.mk1] at *); grind [clipR, clipV], show meetB f t f2 t2 = true by grind]
        exact ⟨(by first | rfl | simp only [List.length_set]), HG⟩
      ·
        try simp only [decide_eq_true_eq, decide_eq_false_iff_not, Bool.or_eq_true, Bool.and_eq_true, Bool.or_eq_false_iff, Bool.and_eq_false_iff, Bool.not_eq_true', Bool.not_eq_false', Int.not_lt, Int.not_le, Decidable.not_not, V.u8eq, V.S_inj, V.S_lit, V.S_lit2, V.bl] at h5
        try simp only [V.mk0, V.mk1, V.mk2, V.mk3] at h5
        refine V.skip ?_
        refine V.bN ?_
        refine V.tN ?_
        refine V.seq ?_
        refine V.region ?_
        refine V.run T_ok 1 rfl ?_
        refine V.loadO T_ok Fk2 rfl rfl rfl rfl rfl ?_
        refine V.run T_ok 1 rfl ?_
        refine V.loadO T_ok Fk9 rfl rfl rfl rfl rfl ?_
        refine V.step rfl rfl (V.maxS_run rfl rfl rfl) ?_
        refine V.run T_ok 1 rfl ?_
        refine V.loadO T_ok Fk2 rfl rfl rfl rfl rfl ?_
        refine V.run T_ok 1 rfl ?_
        refine V.loadO T_ok Fk9 rfl rfl rfl rfl rfl ?_
        refine V.step rfl rfl (V.minS_run rfl rfl rfl) ?_
        refine V.mkStruct T_ok zero24 rfl rfl rfl rfl rfl ?_
        refine V.storeO Fk16 rfl rfl rfl rfl sz24 rfl rfl rfl rfl ?_
        rintro w40 G41 z43 Fs42
        clear Fk16
        have z44 := V.Fr.size G41
        first | replace Fk2 := Fk2.mv1 G41 (by omega) | clear Fk2 | skip
        first | replace Fk9 := Fk9.mv1 G41 (by omega) | clear Fk9 | skip
        replace HG := HG.new1 G41 (by first | (refine Or.inr ?_; omega) | (refine Or.inl ?_; simp; done))
        clear G41
        have Fk16 := Fs42; clear Fs42
        simp only [V.spliceL, V.cellsL] at Fk16
        refine V.run T_ok 1 rfl ?_
        refine V.nil ?_
        refine V.tN ?_
        refine V.ret ?_
        refine V.done2 rfl (V.resV_cell T_ok Fk16 rfl rfl) (V.resV_tmp rfl) ?_
        rw [show clipR f t f2 t2 = (maxS f f2, minS t t2) by (try simp only [V.mk0, V.mk1] at *); grind [clipR, clipV, maxS, minS], show meetB f t f2 t2 = true by grind]
        exact ⟨(by first | rfl | simp only [List.length_set]), HG⟩

set_option maxHeartbeats 4000000 in
set_option maxRecDepth 10000 in
theorem rclip_spec {w : World}  {f : ByteArray} {t : ByteArray} {f2 : ByteArray} {t2 : ByteArray} (hf : f.size ≤ 9223372036854775807) (ht : t.size ≤ 9223372036854775807) (hf2 : f2.size ≤ 9223372036854775807) (ht2 : t2.size ≤ 9223372036854775807) :
    Meets Try.prog 28 [.agg #[.string f, .string t], .agg #[.string f2, .string t2]] w fun r w' => r = .tuple #[.agg #[.string ((clipR f t f2 t2).1), .string ((clipR f t f2 t2).2)], .bool (meetB f t f2 t2)] ∧ Gr w w' := by
  have HG := V.Fr.refl [] w
  refine V.enter (n := 40) Try.func28 rfl rfl (by decide) rfl ?_
  refine V.seq ?_
  refine V.region ?_
  refine V.box rfl rfl rfl rfl ?_
  rintro k1 w3 s5 s6 G4 Fk2
  have z7 := V.Fr.size G4
  replace HG := HG.grow G4
  clear G4
  try simp only [V.cellsL, V.spliceL] at Fk2
  refine V.box rfl rfl rfl rfl ?_
  rintro k8 w10 s12 s13 G11 Fk9
  have z14 := V.Fr.size G11
  try replace Fk2 := Fk2.gr G11
  replace HG := HG.grow G11
  clear G11
  try simp only [V.cellsL, V.spliceL] at Fk9
  refine V.alloc zero24 rfl rfl rfl ?_
  rintro k15 w17 s19 s20 G18 Fk16
  have z21 := V.Fr.size G18
  try replace Fk2 := Fk2.gr G18
  try replace Fk9 := Fk9.gr G18
  replace HG := HG.grow G18
  clear G18
  try simp only [V.cellsL, V.spliceL] at Fk16
  refine V.run T_ok 1 rfl ?_
  refine V.nil ?_
  refine V.tN ?_
  refine V.seq ?_
  refine V.region ?_
  refine V.loadO T_ok Fk2 rfl rfl rfl rfl rfl ?_
  refine V.loadO T_ok Fk9 rfl rfl rfl rfl rfl ?_
  refine V.call (rmeet_spec (f := f) (t := t) (f2 := f2) (t2 := t2) (by first | omega | decide | (simp only [V.S_size, List.length_cons, List.length_nil]; omega)) (by first | omega | decide | (simp only [V.S_size, List.length_cons, List.length_nil]; omega)) (by first | omega | decide | (simp only [V.S_size, List.length_cons, List.length_nil]; omega)) (by first | omega | decide | (simp only [V.S_size, List.length_cons, List.length_nil]; omega))) rfl rfl rfl ?_
  rintro _ w22 ⟨rfl, G23⟩
  have z24 := V.Fr.size G23
  try replace Fk2 := Fk2.gr G23
  try replace Fk9 := Fk9.gr G23
  try replace Fk16 := Fk16.gr G23
  replace HG := HG.grow G23
  clear G23
  refine V.run T_ok 1 rfl ?_
  refine V.nil ?_
  refine V.tN ?_
  refine V.seq ?_
  refine V.seq ?_
  refine V.region ?_
  refine V.run T_ok 2 rfl ?_
  refine V.nil ?_
  refine V.tN ?_
  refine V.condT rfl (fun h2 => ?_) (fun h2 => ?_)
  ·
    try simp only [decide_eq_true_eq, decide_eq_false_iff_not, Bool.or_eq_true, Bool.and_eq_true, Bool.or_eq_false_iff, Bool.and_eq_false_iff, Bool.not_eq_true', Bool.not_eq_false', Int.not_lt, Int.not_le, Decidable.not_not, V.u8eq, V.S_inj, V.S_lit, V.S_lit2, V.bl] at h2
    try simp only [V.mk0, V.mk1, V.mk2, V.mk3] at h2
    refine V.seq ?_
    refine V.region ?_
    refine V.mkStruct T_ok zero24 rfl rfl rfl rfl rfl ?_
    refine V.storeO Fk16 rfl rfl rfl rfl sz24 rfl rfl rfl rfl ?_
    rintro w25 G26 z28 Fs27
    clear Fk16
    have z29 := V.Fr.size G26
    first | replace Fk2 := Fk2.mv1 G26 (by omega) | clear Fk2 | skip
    first | replace Fk9 := Fk9.mv1 G26 (by omega) | clear Fk9 | skip
    replace HG := HG.new1 G26 (by first | (refine Or.inr ?_; omega) | (refine Or.inl ?_; simp; done))
    clear G26
    have Fk16 := Fs27; clear Fs27
    simp only [V.spliceL, V.cellsL] at Fk16
    refine V.run T_ok 1 rfl ?_
    refine V.nil ?_
    refine V.tN ?_
    refine V.ret ?_
    refine V.tR ?_
    refine V.done2 rfl (V.resV_cell T_ok Fk16 rfl rfl) (V.resV_tmp rfl) ?_
    rw [show clipR f t f2 t2 = (S [], S []) by (try simp only [V.mk0, V.mk1] at *); grind [clipR, clipV], show meetB f t f2 t2 = false by grind]
    exact ⟨(by first | rfl | simp only [List.length_set]), HG⟩
  ·
    try simp only [decide_eq_true_eq, decide_eq_false_iff_not, Bool.or_eq_true, Bool.and_eq_true, Bool.or_eq_false_iff, Bool.and_eq_false_iff, Bool.not_eq_true', Bool.not_eq_false', Int.not_lt, Int.not_le, Decidable.not_not, V.u8eq, V.S_inj, V.S_lit, V.S_lit2, V.bl] at h2
    try simp only [V.mk0, V.mk1, V.mk2, V.mk3] at h2
    refine V.skip ?_
    refine V.tN ?_
    refine V.seq ?_
    refine V.seq ?_
    refine V.region ?_
    refine V.run T_ok 1 rfl ?_
    refine V.loadO T_ok Fk2 rfl rfl rfl rfl rfl ?_
    refine V.run T_ok 1 rfl ?_
    refine V.nil ?_
    refine V.tN ?_
    refine V.condT rfl (fun h4 => ?_) (fun h4 => ?_)
    ·
      try simp only [decide_eq_true_eq, decide_eq_false_iff_not, Bool.or_eq_true, Bool.and_eq_true, Bool.or_eq_false_iff, Bool.and_eq_false_iff, Bool.not_eq_true', Bool.not_eq_false', Int.not_lt, Int.not_le, Decidable.not_not, V.u8eq, V.S_inj, V.S_lit, V.S_lit2, V.bl] at h4
      try simp only [V.mk0, V.mk1, V.mk2, V.mk3] at h4
      refine V.seq ?_
      refine V.region ?_
      refine V.loadO T_ok Fk2 rfl rfl rfl rfl rfl ?_
      refine V.storeO Fk16 rfl rfl rfl rfl sz24 rfl rfl rfl rfl ?_
      rintro w30 G31 z33 Fs32
      clear Fk16
      have z34 := V.Fr.size G31
      first | replace Fk2 := Fk2.mv1 G31 (by omega) | clear Fk2 | skip
      first | replace Fk9 := Fk9.mv1 G31 (by omega) | clear Fk9 | skip
      replace HG := HG.new1 G31 (by first | (refine Or.inr ?_; omega) | (refine Or.inl ?_; simp; done))
      clear G31
      have Fk16 := Fs32; clear Fs32
      simp only [V.spliceL, V.cellsL] at Fk16
      refine V.run T_ok 1 rfl ?_
      refine V.nil ?_
      refine V.tN ?_
      refine V.ret ?_
      refine V.tR ?_
      refine V.done2 rfl (V.resV_cell T_ok Fk16 rfl rfl) (V.resV_tmp rfl) ?_
      rw [show clipR f t f2 t2 = (f, t) by (try simp only [V.mk0, V.mk1] at *); grind [clipR, clipV], show meetB f t f2 t2 = true by grind]
      exact ⟨(by first | rfl | simp only [List.length_set]), HG⟩
    ·
      try simp only [decide_eq_true_eq, decide_eq_false_iff_not, Bool.or_eq_true, Bool.and_eq_true, Bool.or_eq_false_iff, Bool.and_eq_false_iff, Bool.not_eq_true', Bool.not_eq_false', Int.not_lt, Int.not_le, Decidable.not_not, V.u8eq, V.S_inj, V.S_lit, V.S_lit2, V.bl] at h4
      try simp only [V.mk0, V.mk1, V.mk2, V.mk3] at h4
      refine V.skip ?_
      refine V.tN ?_
      refine V.seq ?_
      refine V.seq ?_
      refine V.region ?_
      refine V.run T_ok 1 rfl ?_
      refine V.loadO T_ok Fk9 rfl rfl rfl rfl rfl ?_
      refine V.run T_ok 1 rfl ?_
      refine V.nil ?_
      refine V.tN ?_
      refine V.condT rfl (fun h6 => ?_) (fun h6 => ?_)
      ·
        try simp only [decide_eq_true_eq, decide_eq_false_iff_not, Bool.or_eq_true, Bool.and_eq_true, Bool.or_eq_false_iff, Bool.and_eq_false_iff, Bool.not_eq_true', Bool.not_eq_false', Int.not_lt, Int.not_le, Decidable.not_not, V.u8eq, V.S_inj, V.S_lit, V.S_lit2, V.bl] at h6
        try simp only [V.mk0, V.mk1, V.mk2, V.mk3] at h6
        refine V.seq ?_
        refine V.region ?_
        refine V.loadO T_ok Fk9 rfl rfl rfl rfl rfl ?_
        refine V.storeO Fk16 rfl rfl rfl rfl sz24 rfl rfl rfl rfl ?_
        rintro w35 G36 z38 Fs37
        clear Fk16
        have z39 := V.Fr.size G36
        first | replace Fk2 := Fk2.mv1 G36 (by omega) | clear Fk2 | skip
        first | replace Fk9 := Fk9.mv1 G36 (by omega) | clear Fk9 | skip
        replace HG := HG.new1 G36 (by first | (refine Or.inr ?_; omega) | (refine Or.inl ?_; simp; done))
        clear G36
        have Fk16 := Fs37; clear Fs37
        simp only [V.spliceL, V.cellsL] at Fk16
        refine V.run T_ok 1 rfl ?_
        refine V.nil ?_
        refine V.tN ?_
        refine V.ret ?_
        refine V.tR ?_
        refine V.done2 rfl (V.resV_cell T_ok Fk16 rfl rfl) (V.resV_tmp rfl) ?_
        rw [show clipR f t f2 t2 = (f2, t2) by (try simp only [V.mk0, V.mk1] at *); grind [clipR, clipV], show meetB f t f2 t2 = true by grind]
        exact ⟨(by first | rfl | simp only [List.length_set]), HG⟩
      ·
        try simp only [decide_eq_true_eq, decide_eq_false_iff_not, Bool.or_eq_true, Bool.and_eq_true, Bool.or_eq_false_iff, Bool.and_eq_false_iff, Bool.not_eq_true', Bool.not_eq_false', Int.not_lt, Int.not_le, Decidable.not_not, V.u8eq, V.S_inj, V.S_lit, V.S_lit2, V.bl] at h6
        try simp only [V.mk0, V.mk1, V.mk2, V.mk3] at h6
        refine V.skip ?_
        refine V.tN ?_
        refine V.seq ?_
        refine V.region ?_
        refine V.loadO T_ok Fk2 rfl rfl rfl rfl rfl ?_
        refine V.alloc zero24 rfl rfl rfl ?_
        rintro k40 w42 s44 s45 G43 Fk41
        have z46 := V.Fr.size G43
        try replace Fk2 := Fk2.gr G43
        try replace Fk9 := Fk9.gr G43
        try replace Fk16 := Fk16.gr G43
        replace HG := HG.grow G43
        clear G43
        try simp only [V.cellsL, V.spliceL] at Fk41
        refine V.storeO Fk41 rfl rfl rfl rfl sz24 rfl rfl rfl rfl ?_
        rintro w47 G48 z50 Fs49
        clear Fk41
        have z51 := V.Fr.size G48
        first | replace Fk2 := Fk2.mv1 G48 (by omega) | clear Fk2 | skip
        first | replace Fk9 := Fk9.mv1 G48 (by omega) | clear Fk9 | skip
        first | replace Fk16 := Fk16.mv1 G48 (by omega) | clear Fk16 | skip
        replace HG := HG.new1 G48 (by first | (refine Or.inr ?_; omega) | (refine Or.inl ?_; simp; done))
        clear G48
        have Fk41 := Fs49; clear Fs49
        simp only [V.spliceL, V.cellsL] at Fk41
        refine V.nil ?_
        refine V.tN ?_
        refine V.seq ?_
        refine V.seq ?_
        refine V.region ?_
        refine V.run T_ok 1 rfl ?_
        refine V.loadO T_ok Fk9 rfl rfl rfl rfl rfl ?_
        refine V.run T_ok 1 rfl ?_
        refine V.loadO T_ok Fk2 rfl rfl rfl rfl rfl ?_
        refine V.run T_ok 1 rfl ?_
        refine V.nil ?_
        refine V.tN ?_
        refine V.condT rfl (fun h9 => ?_) (fun h9 => ?_)
        ·
          try simp only [decide_eq_true_eq, decide_eq_false_iff_not, Bool.or_eq_true, Bool.and_eq_true, Bool.or_eq_false_iff, Bool.and_eq_false_iff, Bool.not_eq_true', Bool.not_eq_false', Int.not_lt, Int.not_le, Decidable.not_not, V.u8eq, V.S_inj, V.S_lit, V.S_lit2, V.bl] at h9
          try simp only [V.mk0, V.mk1, V.mk2, V.mk3] at h9
          refine V.region ?_
          refine V.run T_ok 1 rfl ?_
          refine V.loadO T_ok Fk9 rfl rfl rfl rfl rfl ?_
          refine V.run T_ok 1 rfl ?_
          refine V.storeO Fk41 rfl rfl rfl rfl sz9 rfl rfl rfl rfl ?_
          rintro w52 G53 z55 Fs54
          clear Fk41
          have z56 := V.Fr.size G53
          first | replace Fk2 := Fk2.mv1 G53 (by omega) | clear Fk2 | skip
          first | replace Fk9 := Fk9.mv1 G53 (by omega) | clear Fk9 | skip
          first | replace Fk16 := Fk16.mv1 G53 (by omega) | clear Fk16 | skip
          replace HG := HG.new1 G53 (by first | (refine Or.inr ?_; omega) | (refine Or.inl ?_; simp; done))
          clear G53
          have Fk41 := Fs54; clear Fs54
          simp only [V.spliceL, V.cellsL] at Fk41
          refine V.nil ?_
          refine V.tN ?_
          refine V.seq ?_
          refine V.seq ?_
          refine V.region ?_
          refine V.run T_ok 1 rfl ?_
          refine V.loadO T_ok Fk9 rfl rfl rfl rfl rfl ?_
          refine V.run T_ok 1 rfl ?_
          refine V.loadO T_ok Fk2 rfl rfl rfl rfl rfl ?_
          refine V.run T_ok 1 rfl ?_
          refine V.nil ?_
          refine V.tN ?_
          refine V.condT rfl (fun h11 => ?_) (fun h11 => ?_)
          ·
            try simp only [decide_eq_true_eq, decide_eq_false_iff_not, Bool.or_eq_true, Bool.and_eq_true, Bool.or_eq_false_iff, Bool.and_eq_false_iff, Bool.not_eq_true', Bool.not_eq_false', Int.not_lt, Int.not_le, Decidable.not_not, V.u8eq, V.S_inj, V.S_lit, V.S_lit2, V.bl] at h11
            try simp only [V.mk0, V.mk1, V.mk2, V.mk3] at h11
            refine V.region ?_
            refine V.run T_ok 1 rfl ?_
            refine V.loadO T_ok Fk9 rfl rfl rfl rfl rfl ?_
            refine V.run T_ok 1 rfl ?_
            refine V.storeO Fk41 rfl rfl rfl rfl sz9 rfl rfl rfl rfl ?_
            rintro w57 G58 z60 Fs59
            clear Fk41
            have z61 := V.Fr.size G58
            first | replace Fk2 := Fk2.mv1 G58 (by omega) | clear Fk2 | skip
            first | replace Fk9 := Fk9.mv1 G58 (by omega) | clear Fk9 | skip
            first | replace Fk16 := Fk16.mv1 G58 (by omega) | clear Fk16 | skip
            replace HG := HG.new1 G58 (by first | (refine Or.inr ?_; omega) | (refine Or.inl ?_; simp; done))
            clear G58
            have Fk41 := Fs59; clear Fs59
            simp only [V.spliceL, V.cellsL] at Fk41
            refine V.nil ?_
            refine V.tN ?_
            refine V.seq ?_
            refine V.region ?_
            refine V.loadO T_ok Fk41 rfl rfl rfl rfl rfl ?_
            refine V.storeO Fk16 rfl rfl rfl rfl sz24 rfl rfl rfl rfl ?_
            rintro w62 G63 z65 Fs64
            clear Fk16
            have z66 := V.Fr.size G63
            first | replace Fk2 := Fk2.mv1 G63 (by omega) | clear Fk2 | skip
            first | replace Fk9 := Fk9.mv1 G63 (by omega) | clear Fk9 | skip
            first | replace Fk41 := Fk41.mv1 G63 (by omega) | clear Fk41 | skip
            replace HG := HG.new1 G63 (by first | (refine Or.inr ?_; omega) | (refine Or.inl ?_; simp; done))
            clear G63
            have Fk16 := Fs64; clear Fs64
            simp only [V.spliceL, V.cellsL] at Fk16
            refine V.run T_ok 1 rfl ?_
            refine V.nil ?_
            refine V.tN ?_
            refine V.ret ?_
            refine V.done2 rfl (V.resV_cell T_ok Fk16 rfl rfl) (V.resV_tmp rfl) ?_
            first
              | rw [show clipR f t f2 t2 = (f, t) by (try simp only [V.mk0, V.mk1] at *); grind [clipR, clipV, maxS, minS], show meetB f t f2 t2 = true by grind]
              | rw [show clipR f t f2 t2 = (f2, t) by (try simp only [V.mk0, V.mk1] at *); grind [clipR, clipV, maxS, minS], show meetB f t f2 t2 = true by grind]
              | rw [show clipR f t f2 t2 = (f, t2) by (try simp only [V.mk0, V.mk1] at *); grind [clipR, clipV, maxS, minS], show meetB f t f2 t2 = true by grind]
              | rw [show clipR f t f2 t2 = (f2, t2) by (try simp only [V.mk0, V.mk1] at *); grind [clipR, clipV, maxS, minS], show meetB f t f2 t2 = true by grind]
            exact ⟨(by first | rfl | simp only [List.length_set]), HG⟩
          ·
            try simp only [decide_eq_true_eq, decide_eq_false_iff_not, Bool.or_eq_true, Bool.and_eq_true, Bool.or_eq_false_iff, Bool.and_eq_false_iff, Bool.not_eq_true', Bool.not_eq_false', Int.not_lt, Int.not_le, Decidable.not_not, V.u8eq, V.S_inj, V.S_lit, V.S_lit2, V.bl] at h11
            try simp only [V.mk0, V.mk1, V.mk2, V.mk3] at h11
            refine V.skip ?_
            refine V.tN ?_
            refine V.seq ?_
            refine V.region ?_
            refine V.loadO T_ok Fk41 rfl rfl rfl rfl rfl ?_
            refine V.storeO Fk16 rfl rfl rfl rfl sz24 rfl rfl rfl rfl ?_
            rintro w67 G68 z70 Fs69
            clear Fk16
            have z71 := V.Fr.size G68
            first | replace Fk2 := Fk2.mv1 G68 (by omega) | clear Fk2 | skip
            first | replace Fk9 := Fk9.mv1 G68 (by omega) | clear Fk9 | skip
            first | replace Fk41 := Fk41.mv1 G68 (by omega) | clear Fk41 | skip
            replace HG := HG.new1 G68 (by first | (refine Or.inr ?_; omega) | (refine Or.inl ?_; simp; done))
            clear G68
            have Fk16 := Fs69; clear Fs69
            simp only [V.spliceL, V.cellsL] at Fk16
            refine V.run T_ok 1 rfl ?_
            refine V.nil ?_
            refine V.tN ?_
            refine V.ret ?_
            refine V.done2 rfl (V.resV_cell T_ok Fk16 rfl rfl) (V.resV_tmp rfl) ?_
            first
              | rw [show clipR f t f2 t2 = (f, t) by (try simp only [V.mk0, V.mk1] at *); grind [clipR, clipV, maxS, minS], show meetB f t f2 t2 = true by grind]
              | rw [show clipR f t f2 t2 = (f2, t) by (try simp only [V.mk0, V.mk1] at *); grind [clipR, clipV, maxS, minS], show meetB f t f2 t2 = true by grind]
              | rw [show clipR f t f2 t2 = (f, t2) by (try simp only [V.mk0, V.mk1] at *); grind [clipR, clipV, maxS, minS], show meetB f t f2 t2 = true by grind]
              | rw [show clipR f t f2 t2 = (f2, t2) by (try simp only [V.mk0, V.mk1] at *); grind [clipR, clipV, maxS, minS], show meetB f t f2 t2 = true by grind]
            exact ⟨(by first | rfl | simp only [List.length_set]), HG⟩
        ·
          try simp only [decide_eq_true_eq, decide_eq_false_iff_not, Bool.or_eq_true, Bool.and_eq_true, Bool.or_eq_false_iff, Bool.and_eq_false_iff, Bool.not_eq_true', Bool.not_eq_false', Int.not_lt, Int.not_le, Decidable.not_not, V.u8eq, V.S_inj, V.S_lit, V.S_lit2, V.bl] at h9
          try simp only [V.mk0, V.mk1, V.mk2, V.mk3] at h9
          refine V.skip ?_
          refine V.tN ?_
          refine V.seq ?_
          refine V.seq ?_
          refine V.region ?_
          refine V.run T_ok 1 rfl ?_
          refine V.loadO T_ok Fk9 rfl rfl rfl rfl rfl ?_
          refine V.run T_ok 1 rfl ?_
          refine V.loadO T_ok Fk2 rfl rfl rfl rfl rfl ?_
          refine V.run T_ok 1 rfl ?_
          refine V.nil ?_
          refine V.tN ?_
          refine V.condT rfl (fun h11 => ?_) (fun h11 => ?_)
          ·
            try simp only [decide_eq_true_eq, decide_eq_false_iff_not, Bool.or_eq_true, Bool.and_eq_true, Bool.or_eq_false_iff, Bool.and_eq_false_iff, Bool.not_eq_true', Bool.not_eq_false', Int.not_lt, Int.not_le, Decidable.not_not, V.u8eq, V.S_inj, V.S_lit, V.S_lit2, V.bl] at h11
            try simp only [V.mk0, V.mk1, V.mk2, V.mk3] at h11
            refine V.region ?_
            refine V.run T_ok 1 rfl ?_
            refine V.loadO T_ok Fk9 rfl rfl rfl rfl rfl ?_
            refine V.run T_ok 1 rfl ?_
            refine V.storeO Fk41 rfl rfl rfl rfl sz9 rfl rfl rfl rfl ?_
            rintro w72 G73 z75 Fs74
            clear Fk41
            have z76 := V.Fr.size G73
            first | replace Fk2 := Fk2.mv1 G73 (by omega) | clear Fk2 | skip
            first | replace Fk9 := Fk9.mv1 G73 (by omega) | clear Fk9 | skip
            first | replace Fk16 := Fk16.mv1 G73 (by omega) | clear Fk16 | skip
            replace HG := HG.new1 G73 (by first | (refine Or.inr ?_; omega) | (refine Or.inl ?_; simp; done))
            clear G73
            have Fk41 := Fs74; clear Fs74
            simp only [V.spliceL, V.cellsL] at Fk41
            refine V.nil ?_
            refine V.tN ?_
            refine V.seq ?_
            refine V.region ?_
            refine V.loadO T_ok Fk41 rfl rfl rfl rfl rfl ?_
            refine V.storeO Fk16 rfl rfl rfl rfl sz24 rfl rfl rfl rfl ?_
            rintro w77 G78 z80 Fs79
            clear Fk16
            have z81 := V.Fr.size G78
            first | replace Fk2 := Fk2.mv1 G78 (by omega) | clear Fk2 | skip
            first | replace Fk9 := Fk9.mv1 G78 (by omega) | clear Fk9 | skip
            first | replace Fk41 := Fk41.mv1 G78 (by omega) | clear Fk41 | skip
            replace HG := HG.new1 G78 (by first | (refine Or.inr ?_; omega) | (refine Or.inl ?_; simp; done))
            clear G78
            have Fk16 := Fs79; clear Fs79
            simp only [V.spliceL, V.cellsL] at Fk16
            refine V.run T_ok 1 rfl ?_
            refine V.nil ?_
            refine V.tN ?_
            refine V.ret ?_
            refine V.done2 rfl (V.resV_cell T_ok Fk16 rfl rfl) (V.resV_tmp rfl) ?_
            first
              | rw [show clipR f t f2 t2 = (f, t) by (try simp only [V.mk0, V.mk1] at *); grind [clipR, clipV, maxS, minS], show meetB f t f2 t2 = true by grind]
              | rw [show clipR f t f2 t2 = (f2, t) by (try simp only [V.mk0, V.mk1] at *); grind [clipR, clipV, maxS, minS], show meetB f t f2 t2 = true by grind]
              | rw [show clipR f t f2 t2 = (f, t2) by (try simp only [V.mk0, V.mk1] at *); grind [clipR, clipV, maxS, minS], show meetB f t f2 t2 = true by grind]
              | rw [show clipR f t f2 t2 = (f2, t2) by (try simp only [V.mk0, V.mk1] at *); grind [clipR, clipV, maxS, minS], show meetB f t f2 t2 = true by grind]
            exact ⟨(by first | rfl | simp only [List.length_set]), HG⟩
          ·
            try simp only [decide_eq_true_eq, decide_eq_false_iff_not, Bool.or_eq_true, Bool.and_eq_true, Bool.or_eq_false_iff, Bool.and_eq_false_iff, Bool.not_eq_true', Bool.not_eq_false', Int.not_lt, Int.not_le, Decidable.not_not, V.u8eq, V.S_inj, V.S_lit, V.S_lit2, V.bl] at h11
            try simp only [V.mk0, V.mk1, V.mk2, V.mk3] at h11
            refine V.skip ?_
            refine V.tN ?_
            refine V.seq ?_
            refine V.region ?_
            refine V.loadO T_ok Fk41 rfl rfl rfl rfl rfl ?_
            refine V.storeO Fk16 rfl rfl rfl rfl sz24 rfl rfl rfl rfl ?_
            rintro w82 G83 z85 Fs84
            clear Fk16
            have z86 := V.Fr.size G83
            first | replace Fk2 := Fk2.mv1 G83 (by omega) | clear Fk2 | skip
            first | replace Fk9 := Fk9.mv1 G83 (by omega) | clear Fk9 | skip
            first | replace Fk41 := Fk41.mv1 G83 (by omega) | clear Fk41 | skip
            replace HG := HG.new1 G83 (by first | (refine Or.inr ?_; omega) | (refine Or.inl ?_; simp; done))
            clear G83
            have Fk16 := Fs84; clear Fs84
            simp only [V.spliceL, V.cellsL] at Fk16
            refine V.run T_ok 1 rfl ?_
            refine V.nil ?_
            refine V.tN ?_
            refine V.ret ?_
            refine V.done2 rfl (V.resV_cell T_ok Fk16 rfl rfl) (V.resV_tmp rfl) ?_
            first
              | rw [show clipR f t f2 t2 = (f, t) by (try simp only [V.mk0, V.mk1] at *); grind [clipR, clipV, maxS, minS], show meetB f t f2 t2 = true by grind]
              | rw [show clipR f t f2 t2 = (f2, t) by (try simp only [V.mk0, V.mk1] at *); grind [clipR, clipV, maxS, minS], show meetB f t f2 t2 = true by grind]
              | rw [show clipR f t f2 t2 = (f, t2) by (try simp only [V.mk0, V.mk1] at *); grind [clipR, clipV, maxS, minS], show meetB f t f2 t2 = true by grind]
              | rw [show clipR f t f2 t2 = (f2, t2) by (try simp only [V.mk0, V.mk1] at *); grind [clipR, clipV, maxS, minS], show meetB f t f2 t2 = true by grind]
            exact ⟨(by first | rfl | simp only [List.length_set]), HG⟩

end Go.Proofs.Ytbfaobkahgadaaa
