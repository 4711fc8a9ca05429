/- Proved here: Rows.JournalPlaysSaid: the law JournalPlays returns true at every input that fits, and its arguments read as before. No condition beyond the statement. -/
import Derived.Test.YtnbijpijbhkcpaaRows
import Derived.Test.YtnbijpijbhkcpaaMlj4
import Derived.WalkKit
import Derived.ProofKit
import Derived.OpenShut
import Derived.ShutString
import Derived.ChangeOld
import Derived.Below
import Derived.SizedLaws
import Derived.Carry
namespace Go.Proofs.Ytnbijpijbhkcpaa.journalPlays
open Go.ChangeShapes Go.WideShapes Go.ChangeAt Go.RowKit
open Go.ChangeMaps (open_string shut_string)
set_option linter.unusedVariables false
theorem own : ownKnob Try.prog.godebug = none := by kernel_rfl
theorem laidOut : laidOutB Try.prog = true := by kernel_rfl
set_option maxRecDepth 100000 in
theorem lifted (os : Os) (started : os.Started) (H : Type) (enc : TypeId × Value → H) :
    ReturnsInHanded {} Try.checked os 4 .any (Rows.journalPlaysSpec.pre6 enc Try.prog Try.f4 Rows.journalPlaysRow.domain false) (Rows.journalPlaysSpec.post enc Try.prog Try.f4 false true false false) := by
  refine returnsInHanded_of_change_sized (C := Try.checked) own started (by kernel_rfl) Try.func4
    (ChangeSpec.witness6 (enc := enc) (C := Try.checked) false ⟨#[], #[.slice none 0 0], []⟩ 8 (by kernel_rfl) (by kernel_rfl) (by kernel_rfl) (by kernel_rfl)) ?_
  intro W base args ds gs before hval0 hW hcnd hsz0 _
  have hsz : (DataW.weightsEach Try.prog (Try.f4.params.toList ++ Rows.journalPlaysSpec.plain.varTypes Try.prog) (ds ++ gs)).all (· ≤ reachBytes) = true := hsz0
  have hval : ∀ (j : Nat) t v, Try.f4.params[j]? = some t → args[j]? = some v → Value.okWide Try.prog W .any base t v := hval0
  have hW' := hW
  obtain ⟨p, q, hA0, hV, rfl, hfz, hnd⟩ := hW
  have hA : DataW.TrodAll enc Try.prog W 0 (fun _ => true) true Try.f4.params.toList args.toList ds p := hA0
  rw [Try.params4] at hA hval hsz
  obtain ⟨v0, vs0, d0, ds0, p0, q0, hargs, rfl, rfl, h0, r0⟩ := trodAll_cons hA
  obtain ⟨rfl, rfl, rfl⟩ := trodAll_nil r0
  obtain rfl : args = #[v0] := by cases args; simp_all
  obtain ⟨rfl, rfl⟩ := trodVars_none hV
  have k0 := h0
  have lt0 : ∀ x ∈ p0, x.block < W.heap.size := by obtain ⟨m, hm⟩ := k0; exact DataW.trod_lt m _ _ _ hm
  obtain ⟨a0, c0, xs0, rfl, F0, ok0⟩ := V.open_slc (C := (V.Cod.pair (V.Cod.int .i64) (V.Cod.pair (V.Cod.int .i64) (V.Cod.pair (V.Cod.int .i64) (V.Cod.pair V.Cod.byte.sl (V.Cod.pair V.Cod.bool V.Cod.bool)))))) Try.underlying40 (hval 0 40 v0 rfl rfl) (by kernel_rfl) (by show 0 < 6; decide) (V.opens_struct Try.underlying42 (by kernel_rfl) (V.ops_cons (by kernel_rfl) (V.opens_i64 Try.underlying3) (V.ops_cons (by kernel_rfl) (V.opens_i64 Try.underlying3) (V.ops_cons (by kernel_rfl) (V.opens_i64 Try.underlying3) (V.ops_cons (by kernel_rfl) (V.opens_sl Try.underlying22 (by kernel_rfl) (by show 0 < 1; decide) (V.opens_byte Try.underlying5)) (V.ops_cons (by kernel_rfl) (V.opens_bool Try.underlying4) (V.ops_one (by kernel_rfl) (V.opens_bool Try.underlying4)))))))) h0
  clear hA0 hval0 hsz0 hsz
  refine (journalPlays_walk (w := W) F0 (fun k h => h)).2.mono ?_
  rintro e W' ⟨v, rfl, rfl, hg⟩
  have bel : Below W.heap.size W W' := ⟨hg.os, hg.tape, hg.output, hg.size, fun k hk => hg.block k hk (by simp)⟩
  exact ⟨_, rfl, _, _, _, [], _, [], hW', trodAll_mk1 (shut_bool Try.underlying4 _), (trodAll_cons_mk (Below.trod laidOut (by kernel_rfl) (of_decide_eq_true (by kernel_rfl)) k0 bel lt0) trodAll_mk0), rfl, bel.frame _, fun h => by cases h⟩
theorem over : Rows.journalPlaysRow.holds Try.pinned (OpenSpec.ofChange Rows.journalPlaysSpec) :=
  OpenClaim.holds_of_wide 4 Try.f4 rfl rfl rfl rfl rfl rfl rfl ⟨rfl, rfl, rfl, rfl, rfl⟩ rfl rfl rfl rfl rfl (by kernel_rfl) Try.func4 (by kernel_rfl)
    (of_decide_eq_true (by kernel_rfl)) (by unfold Func.isWrapper; first | (rw [if_pos (by decide +kernel)]; kernel_rfl) | (rw [if_neg (by decide +kernel)]; exact ⟨rfl, rfl⟩))
    (fun os started H enc _ => lifted os started H enc)
theorem proved : Rows.JournalPlaysSaid := over
#print axioms proved
end Go.Proofs.Ytnbijpijbhkcpaa.journalPlays
namespace Go.Proofs.Ytnbijpijbhkcpaa
theorem journalPlays_holds : Rows.JournalPlaysSaid := journalPlays.proved
end Go.Proofs.Ytnbijpijbhkcpaa
