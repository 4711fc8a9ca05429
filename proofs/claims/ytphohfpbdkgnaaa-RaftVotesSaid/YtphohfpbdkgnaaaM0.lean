/- Proved here: walks: what functions of this seat's program return and what they leave of memory, each as a contract. Conditions: stated at each theorem. -/
import Derived.Test.YtphohfpbdkgnaaaHB
namespace Go.Proofs.Ytphohfpbdkgnaaa
set_option linter.unusedVariables false
set_option linter.unusedSimpArgs false
open Go
open V (Bytes Meets Env Sl Own Gr Fr Cells S)

set_option maxHeartbeats 900000 in
set_option maxRecDepth 10000 in
theorem clone_spec {w : World}  {D_b : Nat → Prop} {c_b : Nat} {a_b : Option Addr} {b : List UInt8} (F_b : Sl V.Cod.byte w D_b a_b c_b b) (hl : b.length ≤ 140737488355328) :
    Meets Try.prog 37 [.slice a_b b.length c_b] w fun r w' => ∃ (ra1 : Option Addr) (rc1 : Nat), r = .slice ra1 b.length rc1 ∧ V.Row V.Cod.byte 5 w' V.None' w.heap.size w'.heap.size ra1 rc1 b ∧ Gr w w' := by
 replace F_b := F_b.flb
 have HG := V.Fr.refl [] w
 refine V.enter (n := 8) Try.func37 rfl rfl (by decide) rfl ?_
 refine V.sr ?_
 refine V.ru 1 ?_
 refine V.nt ?_
 refine V.seq ?_
 refine V.sr ?_
 refine V.ru 2 ?_
 refine V.nt ?_
 refine V.condT rfl (fun h1 => ?_) (fun h1 => ?_)
 ·
  try replace h1 := V.dec h1
  try simp only [V.mk] at h1
  refine V.sr ?_
  refine V.ru 1 ?_
  refine V.nt ?_
  refine V.ret ?_
  refine V.tR ?_
  refine V.done rfl ?_
  have ha : a_b = none := by cases a_b with
    | none => rfl
    | some _ => simp at h1
  have hb := F_b.none ha
  subst hb
  exact ⟨none, 0, (by first | rfl | simp only [List.length_set]), V.Row.nil, HG⟩
 ·
  try replace h1 := V.dec h1
  try simp only [V.mk] at h1
  refine V.skip ?_
  refine V.tN ?_
  refine V.sr ?_
  refine V.mkSlice T_ok zero5 rfl rfl sz5 rfl rfl rfl rfl rfl rfl ?_
  rintro k1 w4 s6 s7 G5 Fk2
  have z8 := V.Fr.size G5
  have F3 := V.rowOfB (xs := ([] : List UInt8)) Fk2 rfl rfl
  clear Fk2
  refine V.ru 1 ?_
  replace F_b := F_b.gr G5
  refine V.appendR (F3) (V.From.flat V.flat_byte (D' := V.None') (F_b.from Try.underlying28)) elT28_28 rfl rfl rfl rfl rfl V.lenA (by unfold maxLen; first | omega | (simp only [List.length_take, List.length_drop, List.length_append, List.length_cons, List.length_nil, List.length_replicate, List.length_set, V.length_data, V.S_size]; omega)) (by omega) (by omega) (fun _ h => h.elim) (fun _ h => h.elim) ?_
  rintro a9 c10 w12 G13 s14 F11
  clear F3
  have z15 := Go.RowKit.Below.size G13
  rw [List.nil_append] at F11 ⊢
  refine V.ru 1 ?_
  refine V.nt ?_
  refine V.ret ?_
  refine V.done rfl ?_
  replace HG := HG.grow G5
  replace HG := HG.bl (Go.RowKit.Below.mono G13 (by first | assumption | omega))
  exact ⟨a9, c10, (by first | rfl | simp only [List.length_set]), F11.re, HG⟩

end Go.Proofs.Ytphohfpbdkgnaaa
