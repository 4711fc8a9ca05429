/- Proved here: Rows.CommandNeedsSaid: the law CommandNeeds returns true at every input that fits, and its arguments read as before. No condition beyond the statement. -/
import Derived.Test.YtkklebdlbmoogaaRows
import Derived.Test.YtkklebdlbmoogaaMcl2
import Derived.WalkKit
import Derived.ProofKit
import Derived.OpenShut
import Derived.ShutString
import Derived.ChangeOld
import Derived.Below
import Derived.SizedLaws
import Derived.Carry
namespace Go.Proofs.Ytkklebdlbmoogaa.commandNeeds
open Go.ChangeShapes Go.WideShapes Go.ChangeAt Go.RowKit
open Go.ChangeMaps (open_string shut_string)
set_option linter.unusedVariables false
theorem own : ownKnob Try.prog.godebug = none := by kernel_rfl
theorem laidOut : laidOutB Try.prog = true := by kernel_rfl
set_option maxRecDepth 100000 in
theorem lifted (os : Os) (started : os.Started) (H : Type) (enc : TypeId × Value → H) :
    ReturnsInHanded {} Try.checked os 7 .any (Rows.commandNeedsSpec.pre6 enc Try.prog Try.f7 Rows.commandNeedsRow.domain false) (Rows.commandNeedsSpec.post enc Try.prog Try.f7 false true false false) := by
  refine returnsInHanded_of_change_sized (C := Try.checked) own started (by kernel_rfl) Try.func7
    (ChangeSpec.witness6 (enc := enc) (C := Try.checked) false ⟨#[], #[.agg #[(.int .i64 0), (.int .i64 0), (.int .i64 0), (.int .i64 0), (.int .i64 0), (.int .i64 0), (.string ByteArray.empty), (.int .i64 0), (.int .i64 0), (.int .i64 0), (.string ByteArray.empty), (.string ByteArray.empty), (.string ByteArray.empty), (.bool false), (.int .i64 0), (.int .i64 0), (.int .i64 0), (.int .i64 0), (.bool false), (.bool false), (.slice none 0 0), (.int .i64 0)]], []⟩ 8 (by kernel_rfl) (by kernel_rfl) (by kernel_rfl) (by kernel_rfl)) ?_
  intro W base args ds gs before hval0 hW hcnd hsz0 _
  have hsz : (DataW.weightsEach Try.prog (Try.f7.params.toList ++ Rows.commandNeedsSpec.plain.varTypes Try.prog) (ds ++ gs)).all (· ≤ reachBytes) = true := hsz0
  have hval : ∀ (j : Nat) t v, Try.f7.params[j]? = some t → args[j]? = some v → Value.okWide Try.prog W .any base t v := hval0
  have hW' := hW
  obtain ⟨p, q, hA0, hV, rfl, hfz, hnd⟩ := hW
  have hA : DataW.TrodAll enc Try.prog W 0 (fun _ => true) true Try.f7.params.toList args.toList ds p := hA0
  rw [Try.params7] at hA hval hsz
  obtain ⟨v0, vs0, d0, ds0, p0, q0, hargs, rfl, rfl, h0, r0⟩ := trodAll_cons hA
  obtain ⟨rfl, rfl, rfl⟩ := trodAll_nil r0
  obtain rfl : args = #[v0] := by cases args; simp_all
  obtain ⟨rfl, rfl⟩ := trodVars_none hV
  have k0 := h0
  have lt0 : ∀ x ∈ p0, x.block < W.heap.size := by obtain ⟨m, hm⟩ := k0; exact DataW.trod_lt m _ _ _ hm
  obtain ⟨a0, cs0, rfl, R0, ok0⟩ := V.open_agg (C := (V.Cod.pair (V.Cod.int .i64) (V.Cod.pair (V.Cod.int .i64) (V.Cod.pair (V.Cod.int .i64) (V.Cod.pair (V.Cod.int .i64) (V.Cod.pair (V.Cod.pair (V.Cod.int .i64) (V.Cod.pair (V.Cod.int .i64) (V.Cod.pair V.Cod.str (V.Cod.pair (V.Cod.int .i64) (V.Cod.int .i64))))) (V.Cod.pair (V.Cod.int .i64) (V.Cod.pair (V.Cod.pair V.Cod.str V.Cod.str) (V.Cod.pair V.Cod.str (V.Cod.pair V.Cod.bool (V.Cod.pair (V.Cod.pair (V.Cod.int .i64) (V.Cod.int .i64)) (V.Cod.pair (V.Cod.pair (V.Cod.int .i64) (V.Cod.int .i64)) (V.Cod.pair V.Cod.bool (V.Cod.pair V.Cod.bool (V.Cod.pair (V.Cod.pair V.Cod.str (V.Cod.int .i64)).sl (V.Cod.int .i64)))))))))))))))) (.inl ⟨_, Try.underlying33⟩) (hval 0 33 v0 rfl rfl) (V.opens_struct Try.underlying33 (by kernel_rfl) (V.ops_cons (by kernel_rfl) (V.opens_i64 Try.underlying24) (V.ops_cons (by kernel_rfl) (V.opens_i64 Try.underlying3) (V.ops_cons (by kernel_rfl) (V.opens_i64 Try.underlying3) (V.ops_cons (by kernel_rfl) (V.opens_i64 Try.underlying3) (V.ops_cons (by kernel_rfl) (V.opens_struct Try.underlying28 (by kernel_rfl) (V.ops_cons (by kernel_rfl) (V.opens_i64 Try.underlying3) (V.ops_cons (by kernel_rfl) (V.opens_i64 Try.underlying3) (V.ops_cons (by kernel_rfl) (V.opens_str Try.underlying9) (V.ops_one (by kernel_rfl) (V.opens_struct Try.underlying26 (by kernel_rfl) (V.ops_cons (by kernel_rfl) (V.opens_i64 Try.underlying3) (V.ops_one (by kernel_rfl) (V.opens_i64 Try.underlying3))))))))) (V.ops_cons (by kernel_rfl) (V.opens_i64 Try.underlying3) (V.ops_cons (by kernel_rfl) (V.opens_struct Try.underlying30 (by kernel_rfl) (V.ops_cons (by kernel_rfl) (V.opens_str Try.underlying9) (V.ops_one (by kernel_rfl) (V.opens_str Try.underlying9)))) (V.ops_cons (by kernel_rfl) (V.opens_str Try.underlying9) (V.ops_cons (by kernel_rfl) (V.opens_bool Try.underlying4) (V.ops_cons (by kernel_rfl) (V.opens_struct Try.underlying26 (by kernel_rfl) (V.ops_cons (by kernel_rfl) (V.opens_i64 Try.underlying3) (V.ops_one (by kernel_rfl) (V.opens_i64 Try.underlying3)))) (V.ops_cons (by kernel_rfl) (V.opens_struct Try.underlying26 (by kernel_rfl) (V.ops_cons (by kernel_rfl) (V.opens_i64 Try.underlying3) (V.ops_one (by kernel_rfl) (V.opens_i64 Try.underlying3)))) (V.ops_cons (by kernel_rfl) (V.opens_bool Try.underlying4) (V.ops_cons (by kernel_rfl) (V.opens_bool Try.underlying4) (V.ops_cons (by kernel_rfl) (V.opens_sl Try.underlying31 (by kernel_rfl) (by show 0 < 2; decide) (V.opens_struct Try.underlying65 (by kernel_rfl) (V.ops_cons (by kernel_rfl) (V.opens_str Try.underlying9) (V.ops_one (by kernel_rfl) (V.opens_i64 Try.underlying3))))) (V.ops_one (by kernel_rfl) (V.opens_i64 Try.underlying3))))))))))))))))) h0
  obtain ⟨_, _, rfl, rfl, ⟨_, _, rfl, rfl, ⟨_, _, rfl, rfl, ⟨_, _, rfl, rfl, ⟨_, _, rfl, ⟨_, _, rfl, rfl, ⟨_, _, rfl, rfl, ⟨_, _, rfl, rfl, ⟨_, _, rfl, rfl, rfl⟩⟩⟩⟩, ⟨_, _, rfl, rfl, ⟨_, _, rfl, ⟨_, _, rfl, rfl, rfl⟩, ⟨_, _, rfl, rfl, ⟨_, _, rfl, rfl, ⟨_, _, rfl, ⟨_, _, rfl, rfl, rfl⟩, ⟨_, _, rfl, ⟨_, _, rfl, rfl, rfl⟩, ⟨_, _, rfl, rfl, ⟨_, _, rfl, rfl, ⟨_, _, rfl, ⟨_, _, rfl, F0_0⟩, rfl⟩⟩⟩⟩⟩⟩⟩⟩⟩⟩⟩⟩⟩⟩ := R0
  clear hA0 hval0 hsz0 hsz
  refine (commandNeeds_walk (w := W) (d := (⟨a0.1, a0.2.1, a0.2.2.1, a0.2.2.2.1, a0.2.2.2.2.1.1, a0.2.2.2.2.1.2.1, a0.2.2.2.2.1.2.2.1, a0.2.2.2.2.1.2.2.2.1, a0.2.2.2.2.1.2.2.2.2, a0.2.2.2.2.2.1, a0.2.2.2.2.2.2.1.1, a0.2.2.2.2.2.2.1.2, a0.2.2.2.2.2.2.2.1, a0.2.2.2.2.2.2.2.2.1, a0.2.2.2.2.2.2.2.2.2.1.1, a0.2.2.2.2.2.2.2.2.2.1.2, a0.2.2.2.2.2.2.2.2.2.2.1.1, a0.2.2.2.2.2.2.2.2.2.2.1.2, a0.2.2.2.2.2.2.2.2.2.2.2.1, a0.2.2.2.2.2.2.2.2.2.2.2.2.1, a0.2.2.2.2.2.2.2.2.2.2.2.2.2.1, a0.2.2.2.2.2.2.2.2.2.2.2.2.2.2⟩ : CmdV)) F0_0 (fun k h => h) ⟨(by have := ok0.2.2.2.2.1.2.2.1; simp only [maxLen] at this; dsimp only; omega), (by have := ok0.2.2.2.2.2.2.1.1; simp only [maxLen] at this; dsimp only; omega), (by have := ok0.2.2.2.2.2.2.1.2; simp only [maxLen] at this; dsimp only; omega), (by have := ok0.2.2.2.2.2.2.2.1; simp only [maxLen] at this; dsimp only; omega), (fun x hx => by have := (ok0.2.2.2.2.2.2.2.2.2.2.2.2.2.1.2 x hx).1; simp only [maxLen] at this; omega)⟩).2.mono ?_
  rintro e W' ⟨v, rfl, rfl, hg⟩
  have bel : Below W.heap.size W W' := ⟨hg.os, hg.tape, hg.output, hg.size, fun k hk => hg.block k hk (by simp)⟩
  exact ⟨_, rfl, _, _, _, [], _, [], hW', trodAll_mk1 (shut_bool Try.underlying4 _), (trodAll_cons_mk (Below.trod laidOut (by kernel_rfl) (of_decide_eq_true (by kernel_rfl)) k0 bel lt0) trodAll_mk0), rfl, bel.frame _, fun h => by cases h⟩
theorem over : Rows.commandNeedsRow.holds Try.pinned (OpenSpec.ofChange Rows.commandNeedsSpec) :=
  OpenClaim.holds_of_wide 7 Try.f7 rfl rfl rfl rfl rfl rfl rfl ⟨rfl, rfl, rfl, rfl, rfl⟩ rfl rfl rfl rfl rfl (by kernel_rfl) Try.func7 (by kernel_rfl)
    (of_decide_eq_true (by kernel_rfl)) (by unfold Func.isWrapper; first | (rw [if_pos (by decide +kernel)]; kernel_rfl) | (rw [if_neg (by decide +kernel)]; exact ⟨rfl, rfl⟩))
    (fun os started H enc _ => lifted os started H enc)
theorem proved : Rows.CommandNeedsSaid := over
#print axioms proved
end Go.Proofs.Ytkklebdlbmoogaa.commandNeeds
namespace Go.Proofs.Ytkklebdlbmoogaa
theorem commandNeeds_holds : Rows.CommandNeedsSaid := commandNeeds.proved
end Go.Proofs.Ytkklebdlbmoogaa
