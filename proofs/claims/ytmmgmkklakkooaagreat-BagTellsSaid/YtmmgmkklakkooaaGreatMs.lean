/- Proved here: walks: what functions of this seat's program return and what they leave of memory, each as a contract. Conditions: stated at each theorem. -/
import Derived.Test.YtmmgmkklakkooaaGreatMpk
namespace Go.Proofs.YtmmgmkklakkooaaGreat
set_option linter.unusedVariables false
set_option linter.unusedSimpArgs false
open Go
open V (Bytes Meets Env Sl Own Gr Fr Cells S)

def letB (l : List UInt8) : Bool := l.all fun c => decide (97 ≤ (c.toNat : Int)) && decide ((c.toNat : Int) ≤ 122)
/-- is it a key? -/
def isKey (s : ByteArray) : Bool := letB s.data.toList && decide (¬ s = S []) && decide ((s.size : Int) ≤ 8)
theorem letB_succ {l : List UInt8} {i : Nat} {c : UInt8} (h : letB (l.take i) = true) (hi : i < l.length) (hc : l[i] = c) (h1 : 97 ≤ (c.toNat : Int)) (h2 : (c.toNat : Int) ≤ 122) : letB (l.take (i + 1)) = true := by
  subst hc
  unfold letB at *
  rw [List.take_succ_eq_append_getElem hi, List.all_append, h]
  simp [h1, h2]
theorem letB_bad {l : List UInt8} {i : Nat} {c : UInt8} (hi : i < l.length) (hc : l[i] = c) (h : (c.toNat : Int) < 97 ∨ 122 < (c.toNat : Int)) : letB l = false := by
  subst hc
  unfold letB
  rw [List.all_eq_false]
  exact ⟨l[i], List.getElem_mem hi, by simp; omega⟩
theorem letB_full {l : List UInt8} {i : Nat} (h : letB (l.take i) = true) (hi : l.length ≤ i) : letB l = true := by rwa [List.take_of_length_le hi] at h

set_option maxHeartbeats 900000 in
set_option maxRecDepth 10000 in
theorem key_spec {w : World}  {s : ByteArray} (hs : s.size ≤ 9223372036854775807) :
    Meets Tryz.prog 128 [.string s] w fun r w' => r = .bool (isKey s) ∧ w = w' := by
 have hsz : s.data.toList.length = s.size := Array.length_toList
 refine V.enter (n := 27) Tryz.func128 rfl rfl (by decide) rfl ?_
 refine V.sr ?_
 refine V.ru 1 ?_
 refine V.nt ?_
 refine V.seq ?_
 refine V.sr ?_
 refine V.ru 3 ?_
 refine V.nt ?_
 refine V.block ?_
 refine V.loopM (fun m e v2 => w = v2 ∧ ∃ (i : Nat) , m = s.size - i ∧ i ≤ s.size ∧ letB (s.data.toList.take i) = true ∧ e 0 = .string s ∧ e 5 = .int .i64 (s.size : Int) ∧ e 6 = .int .i64 (i : Int)) ?_ ?_
 ·
  exact ⟨_, rfl, (0), rfl, (Nat.zero_le _), (rfl), rfl, rfl, rfl⟩
 rintro _ e v2 ⟨rfl, i, rfl, hi, hlt, he0_0, he0_5, he0_6⟩
 refine V.knownC (t := 0) he0_0 ?_
 refine V.knownC (t := 5) he0_5 ?_
 refine V.knownC (t := 6) he0_6 ?_
 refine V.sr ?_
 refine V.ru 1 ?_
 refine V.nt ?_
 refine V.seq ?_
 refine V.condT rfl (fun h2 => ?_) (fun h2 => ?_)
 ·
  try replace h2 := V.dec h2
  try simp only [V.mk] at h2
  refine V.skip ?_
  refine V.tN ?_
  refine V.seq ?_
  refine V.block ?_
  refine V.sr ?_
  refine V.ru 2 ?_
  refine V.nt ?_
  refine V.sr ?_
  refine V.ru 2 ?_
  refine V.sidx Tryz.underlying9 rfl rfl rfl rfl rfl (by omega) (by omega) (fun H4_2 => ?_)
  refine V.ru 2 ?_
  refine V.split (j := 4) (t := 13) rfl rfl (fun g4_4 => ?_) (fun g4_4 => ?_)
  ·
   try replace g4_4 := V.dec g4_4
   try simp only [V.mk] at g4_4
   refine V.ru 5 ?_
   refine V.nt ?_
   refine V.condY rfl rfl ?_
   refine V.sr ?_
   refine V.ru 1 ?_
   refine V.nt ?_
   refine V.ret ?_
   refine V.bR ?_
   refine V.tR ?_
   refine V.tR ?_
   refine V.bR ?_
   refine V.tR ?_
   refine V.done rfl ?_
   exact ⟨congrArg Value.bool (by unfold isKey; rw [letB_bad H4_2 rfl (by omega)]; rfl), rfl⟩
  ·
   try replace g4_4 := V.dec g4_4
   try simp only [V.mk] at g4_4
   refine V.ru 2 ?_
   refine V.yes rfl rfl rfl ?_
   refine V.sidx Tryz.underlying9 rfl rfl rfl rfl rfl (by omega) (by omega) (fun H4_7 => ?_)
   refine V.ru 2 ?_
   refine V.nt ?_
   refine V.condT rfl (fun h4 => ?_) (fun h4 => ?_)
   ·
    try replace h4 := V.dec h4
    try simp only [V.mk] at h4
    refine V.sr ?_
    refine V.ru 1 ?_
    refine V.nt ?_
    refine V.ret ?_
    refine V.bR ?_
    refine V.tR ?_
    refine V.tR ?_
    refine V.bR ?_
    refine V.tR ?_
    refine V.done rfl ?_
    exact ⟨congrArg Value.bool (by unfold isKey; rw [letB_bad H4_2 rfl (by omega)]; rfl), rfl⟩
   ·
    try replace h4 := V.dec h4
    try simp only [V.mk] at h4
    refine V.skip ?_
    refine V.bN ?_
    refine V.tN ?_
    refine V.region ?_
    refine V.addN rfl rfl rfl rfl rfl V.lenA V.lenA ?_
    refine V.ru 1 ?_
    refine V.nt ?_
    exact ⟨_, (by omega), rfl, (i + 1), rfl, (by omega), (letB_succ hlt H4_2 rfl g4_4 h4), rfl, rfl, rfl⟩
 ·
  try replace h2 := V.dec h2
  try simp only [V.mk] at h2
  refine V.exit ?_
  refine V.tX ?_
  refine V.tX ?_
  refine V.bE ?_
  refine V.tN ?_
  refine V.sr ?_
  refine V.ru 3 ?_
  refine V.andG T_ok 3 2 22 rfl rfl rfl rfl rfl rfl rfl rfl ?_
  refine V.ru 1 ?_
  refine V.nt ?_
  refine V.ret ?_
  refine V.done rfl ?_
  exact ⟨congrArg Value.bool (by unfold isKey; rw [letB_full hlt (by omega)]; rfl), rfl⟩

def rightB (f t : ByteArray) : Bool := isKey f && (decide (t = S []) || ((decide (t = S [123]) || isKey t) && decide (f < t)))
set_option maxHeartbeats 900000 in
set_option maxRecDepth 10000 in
theorem spright_spec {w : World}  {f : ByteArray} {t : ByteArray} (hf : f.size ≤ 9223372036854775807) (ht : t.size ≤ 9223372036854775807) :
    Meets Tryz.prog 159 [.agg #[.string f, .string t]] w fun r w' => r = .bool (rightB f t) ∧ Gr w w' := by
 have HG := V.Fr.refl [] w
 refine V.enter (n := 30) Tryz.func159 rfl rfl (by decide) rfl ?_
 refine V.sr ?_
 refine V.box rfl rfl rfl rfl ?_
 rintro k1 w3 s5 s6 G4 Fk2
 have z7 := V.Fr.size G4
 try simp only [V.cellsL, V.spliceL] at Fk2
 refine V.ru 1 ?_
 refine V.nt ?_
 refine V.seq ?_
 refine V.sr ?_
 refine V.ru 1 ?_
 refine V.loadO T_ok Fk2 rfl rfl rfl rfl rfl ?_
 refine V.call (key_spec (s := f) (by first | omega | decide | (simp only [V.S_size, List.length_cons, List.length_nil]; omega))) rfl rfl rfl ?_
 rintro _ w3_ ⟨rfl, rfl⟩
 refine V.ru 2 ?_
 refine V.split (j := 4) (t := 7) rfl rfl (fun g1_4 => ?_) (fun g1_4 => ?_)
 ·
  try replace g1_4 := V.dec g1_4
  try simp only [V.mk] at g1_4
  refine V.ru 4 ?_
  refine V.nt ?_
  refine V.condY rfl rfl ?_
  refine V.sr ?_
  refine V.ru 1 ?_
  refine V.loadO T_ok Fk2 rfl rfl rfl rfl rfl ?_
  refine V.call (key_spec (s := f) (by first | omega | decide | (simp only [V.S_size, List.length_cons, List.length_nil]; omega))) rfl rfl rfl ?_
  rintro _ w3_ ⟨rfl, rfl⟩
  refine V.ru 1 ?_
  refine V.nt ?_
  refine V.ret ?_
  refine V.tR ?_
  refine V.done rfl ?_
  replace HG := HG.grow G4
  exact ⟨congrArg Value.bool (by (try simp only [V.bl]); (try simp only [V.mk0, V.mk1]); grind [rightB]), HG⟩
 ·
  try replace g1_4 := V.dec g1_4
  try simp only [V.mk] at g1_4
  refine V.ru 1 ?_
  refine V.yes rfl rfl rfl ?_
  refine V.loadO T_ok Fk2 rfl rfl rfl rfl rfl ?_
  refine V.ru 2 ?_
  refine V.nt ?_
  refine V.condT rfl (fun h1 => ?_) (fun h1 => ?_)
  ·
   try replace h1 := V.dec h1
   try simp only [V.mk] at h1
   refine V.sr ?_
   refine V.ru 1 ?_
   refine V.loadO T_ok Fk2 rfl rfl rfl rfl rfl ?_
   refine V.call (key_spec (s := f) (by first | omega | decide | (simp only [V.S_size, List.length_cons, List.length_nil]; omega))) rfl rfl rfl ?_
   rintro _ w3_ ⟨rfl, rfl⟩
   refine V.ru 1 ?_
   refine V.nt ?_
   refine V.ret ?_
   refine V.tR ?_
   refine V.done rfl ?_
   replace HG := HG.grow G4
   exact ⟨congrArg Value.bool (by (try simp only [V.bl]); (try simp only [V.mk0, V.mk1]); grind [rightB]), HG⟩
  ·
   try replace h1 := V.dec h1
   try simp only [V.mk] at h1
   refine V.skip ?_
   refine V.tN ?_
   refine V.sr ?_
   refine V.ru 1 ?_
   refine V.loadO T_ok Fk2 rfl rfl rfl rfl rfl ?_
   refine V.ru 2 ?_
   refine V.split (j := 3) (t := 18) rfl rfl (fun g3_3 => ?_) (fun g3_3 => ?_)
   ·
    try replace g3_3 := V.dec g3_3
    try simp only [V.mk] at g3_3
    refine V.ru 6 ?_
    refine V.yes rfl rfl rfl ?_
    refine V.loadO T_ok Fk2 rfl rfl rfl rfl rfl ?_
    refine V.ru 1 ?_
    refine V.yes rfl rfl rfl ?_
    refine V.loadO T_ok Fk2 rfl rfl rfl rfl rfl ?_
    refine V.ru 3 ?_
    refine V.nt ?_
    refine V.ret ?_
    refine V.done rfl ?_
    replace HG := HG.grow G4
    exact ⟨congrArg Value.bool (by (try simp only [V.bl]); (try simp only [V.mk0, V.mk1]); grind [rightB]), HG⟩
   ·
    try replace g3_3 := V.dec g3_3
    try simp only [V.mk] at g3_3
    refine V.ru 1 ?_
    refine V.yes rfl rfl rfl ?_
    refine V.loadO T_ok Fk2 rfl rfl rfl rfl rfl ?_
    refine V.yes rfl rfl rfl ?_
    refine V.call (key_spec (s := t) (by first | omega | decide | (simp only [V.S_size, List.length_cons, List.length_nil]; omega))) rfl rfl rfl ?_
    rintro _ w3_ ⟨rfl, rfl⟩
    refine V.ru 2 ?_
    refine V.split (j := 8) (t := 23) rfl rfl (fun g3_8 => ?_) (fun g3_8 => ?_)
    ·
     try replace g3_8 := V.dec g3_8
     try simp only [V.mk] at g3_8
     refine V.ru 1 ?_
     refine V.yes rfl rfl rfl ?_
     refine V.loadO T_ok Fk2 rfl rfl rfl rfl rfl ?_
     refine V.ru 1 ?_
     refine V.yes rfl rfl rfl ?_
     refine V.loadO T_ok Fk2 rfl rfl rfl rfl rfl ?_
     refine V.ru 3 ?_
     refine V.nt ?_
     refine V.ret ?_
     refine V.done rfl ?_
     replace HG := HG.grow G4
     exact ⟨congrArg Value.bool (by (try simp only [V.bl]); (try simp only [V.mk0, V.mk1]); grind [rightB]), HG⟩
    ·
     try replace g3_8 := V.dec g3_8
     try simp only [V.mk] at g3_8
     refine V.ru 7 ?_
     refine V.nt ?_
     refine V.ret ?_
     refine V.done rfl ?_
     replace HG := HG.grow G4
     exact ⟨congrArg Value.bool (by (try simp only [V.bl]); (try simp only [V.mk0, V.mk1]); grind [rightB]), HG⟩

end Go.Proofs.YtmmgmkklakkooaaGreat
