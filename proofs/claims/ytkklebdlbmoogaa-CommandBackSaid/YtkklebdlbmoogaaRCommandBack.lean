/- Proved here: Rows.CommandBackSaid: the law CommandBack returns true at every input that fits, and its arguments read as before. No condition beyond the statement. -/
import Derived.Test.YtkklebdlbmoogaaRows
import Derived.Test.YtkklebdlbmoogaaMcl3
import Derived.WalkKit
import Derived.ProofKit
import Derived.OpenShut
import Derived.ShutString
import Derived.ChangeOld
import Derived.Below
import Derived.SizedLaws
import Derived.Carry
namespace Go.Proofs.Ytkklebdlbmoogaa.commandBack
open Go.ChangeShapes Go.WideShapes Go.ChangeAt Go.RowKit
open Go.ChangeMaps (open_string shut_string)
set_option linter.unusedVariables false
theorem own : ownKnob Try.prog.godebug = none := by kernel_rfl
theorem laidOut : laidOutB Try.prog = true := by kernel_rfl
set_option maxRecDepth 100000 in
theorem lifted (os : Os) (started : os.Started) (H : Type) (enc : TypeId × Value → H) :
    ReturnsInHanded {} Try.checked os 4 .any (Rows.commandBackSpec.pre6 enc Try.prog Try.f4 Rows.commandBackRow.domain false) (Rows.commandBackSpec.post enc Try.prog Try.f4 false true false false) := by
  refine returnsInHanded_of_change_sized (C := Try.checked) own started (by kernel_rfl) Try.func4
    (ChangeSpec.witness6 (enc := enc) (C := Try.checked) false ⟨#[], #[.agg #[(.int .i64 0), (.int .i64 0), (.int .i64 0), (.int .i64 0), (.int .i64 0), (.int .i64 0), (.string ByteArray.empty), (.int .i64 0), (.int .i64 0), (.int .i64 0), (.string ByteArray.empty), (.string ByteArray.empty), (.string ByteArray.empty), (.bool false), (.int .i64 0), (.int .i64 0), (.int .i64 0), (.int .i64 0), (.bool false), (.bool false), (.slice none 0 0), (.int .i64 0)], .slice none 0 0, .int .i64 0], []⟩ 8 (by kernel_rfl) (by kernel_rfl) (by kernel_rfl) (by kernel_rfl)) ?_
  intro W base args ds gs before hval0 hW hcnd hsz0 _
  have hsz : (DataW.weightsEach Try.prog (Try.f4.params.toList ++ Rows.commandBackSpec.plain.varTypes Try.prog) (ds ++ gs)).all (· ≤ reachBytes) = true := hsz0
  have hval : ∀ (j : Nat) t v, Try.f4.params[j]? = some t → args[j]? = some v → Value.okWide Try.prog W .any base t v := hval0
  have hW' := hW
  obtain ⟨p, q, hA0, hV, rfl, hfz, hnd⟩ := hW
  have hA : DataW.TrodAll enc Try.prog W 0 (fun _ => true) true Try.f4.params.toList args.toList ds p := hA0
  rw [Try.params4] at hA hval hsz
  obtain ⟨v0, vs0, d0, ds0, p0, q0, hargs, rfl, rfl, h0, r0⟩ := trodAll_cons hA
  obtain ⟨v1, vs1, d1, ds1, p1, q1, rfl, rfl, rfl, h1, r1⟩ := trodAll_cons r0
  obtain ⟨v2, vs2, d2, ds2, p2, q2, rfl, rfl, rfl, h2, r2⟩ := trodAll_cons r1
  obtain ⟨rfl, rfl, rfl⟩ := trodAll_nil r2
  obtain rfl : args = #[v0, v1, v2] := by cases args; simp_all
  obtain ⟨rfl, rfl⟩ := trodVars_none hV
  have k0 := h0
  have lt0 : ∀ x ∈ p0, x.block < W.heap.size := by obtain ⟨m, hm⟩ := k0; exact DataW.trod_lt m _ _ _ hm
  obtain ⟨a0, cs0, rfl, R0, ok0⟩ := V.open_agg (C := (V.Cod.pair (V.Cod.int .i64) (V.Cod.pair (V.Cod.int .i64) (V.Cod.pair (V.Cod.int .i64) (V.Cod.pair (V.Cod.int .i64) (V.Cod.pair (V.Cod.pair (V.Cod.int .i64) (V.Cod.pair (V.Cod.int .i64) (V.Cod.pair V.Cod.str (V.Cod.pair (V.Cod.int .i64) (V.Cod.int .i64))))) (V.Cod.pair (V.Cod.int .i64) (V.Cod.pair (V.Cod.pair V.Cod.str V.Cod.str) (V.Cod.pair V.Cod.str (V.Cod.pair V.Cod.bool (V.Cod.pair (V.Cod.pair (V.Cod.int .i64) (V.Cod.int .i64)) (V.Cod.pair (V.Cod.pair (V.Cod.int .i64) (V.Cod.int .i64)) (V.Cod.pair V.Cod.bool (V.Cod.pair V.Cod.bool (V.Cod.pair (V.Cod.pair V.Cod.str (V.Cod.int .i64)).sl (V.Cod.int .i64)))))))))))))))) (.inl ⟨_, Try.underlying33⟩) (hval 0 33 v0 rfl rfl) (V.opens_struct Try.underlying33 (by kernel_rfl) (V.ops_cons (by kernel_rfl) (V.opens_i64 Try.underlying24) (V.ops_cons (by kernel_rfl) (V.opens_i64 Try.underlying3) (V.ops_cons (by kernel_rfl) (V.opens_i64 Try.underlying3) (V.ops_cons (by kernel_rfl) (V.opens_i64 Try.underlying3) (V.ops_cons (by kernel_rfl) (V.opens_struct Try.underlying28 (by kernel_rfl) (V.ops_cons (by kernel_rfl) (V.opens_i64 Try.underlying3) (V.ops_cons (by kernel_rfl) (V.opens_i64 Try.underlying3) (V.ops_cons (by kernel_rfl) (V.opens_str Try.underlying9) (V.ops_one (by kernel_rfl) (V.opens_struct Try.underlying26 (by kernel_rfl) (V.ops_cons (by kernel_rfl) (V.opens_i64 Try.underlying3) (V.ops_one (by kernel_rfl) (V.opens_i64 Try.underlying3))))))))) (V.ops_cons (by kernel_rfl) (V.opens_i64 Try.underlying3) (V.ops_cons (by kernel_rfl) (V.opens_struct Try.underlying30 (by kernel_rfl) (V.ops_cons (by kernel_rfl) (V.opens_str Try.underlying9) (V.ops_one (by kernel_rfl) (V.opens_str Try.underlying9)))) (V.ops_cons (by kernel_rfl) (V.opens_str Try.underlying9) (V.ops_cons (by kernel_rfl) (V.opens_bool Try.underlying4) (V.ops_cons (by kernel_rfl) (V.opens_struct Try.underlying26 (by kernel_rfl) (V.ops_cons (by kernel_rfl) (V.opens_i64 Try.underlying3) (V.ops_one (by kernel_rfl) (V.opens_i64 Try.underlying3)))) (V.ops_cons (by kernel_rfl) (V.opens_struct Try.underlying26 (by kernel_rfl) (V.ops_cons (by kernel_rfl) (V.opens_i64 Try.underlying3) (V.ops_one (by kernel_rfl) (V.opens_i64 Try.underlying3)))) (V.ops_cons (by kernel_rfl) (V.opens_bool Try.underlying4) (V.ops_cons (by kernel_rfl) (V.opens_bool Try.underlying4) (V.ops_cons (by kernel_rfl) (V.opens_sl Try.underlying31 (by kernel_rfl) (by show 0 < 2; decide) (V.opens_struct Try.underlying65 (by kernel_rfl) (V.ops_cons (by kernel_rfl) (V.opens_str Try.underlying9) (V.ops_one (by kernel_rfl) (V.opens_i64 Try.underlying3))))) (V.ops_one (by kernel_rfl) (V.opens_i64 Try.underlying3))))))))))))))))) h0
  obtain ⟨_, _, rfl, rfl, ⟨_, _, rfl, rfl, ⟨_, _, rfl, rfl, ⟨_, _, rfl, rfl, ⟨_, _, rfl, ⟨_, _, rfl, rfl, ⟨_, _, rfl, rfl, ⟨_, _, rfl, rfl, ⟨_, _, rfl, rfl, rfl⟩⟩⟩⟩, ⟨_, _, rfl, rfl, ⟨_, _, rfl, ⟨_, _, rfl, rfl, rfl⟩, ⟨_, _, rfl, rfl, ⟨_, _, rfl, rfl, ⟨_, _, rfl, ⟨_, _, rfl, rfl, rfl⟩, ⟨_, _, rfl, ⟨_, _, rfl, rfl, rfl⟩, ⟨_, _, rfl, rfl, ⟨_, _, rfl, rfl, ⟨_, _, rfl, ⟨_, _, rfl, F0_0⟩, rfl⟩⟩⟩⟩⟩⟩⟩⟩⟩⟩⟩⟩⟩⟩ := R0
  have k1 := h1
  have lt1 : ∀ x ∈ p1, x.block < W.heap.size := by obtain ⟨m, hm⟩ := k1; exact DataW.trod_lt m _ _ _ hm
  obtain ⟨a1, c1, xs1, rfl, F1, ok1⟩ := V.open_slc (C := V.Cod.byte) Try.underlying22 (hval 1 22 v1 rfl rfl) (by kernel_rfl) (by show 0 < 1; decide) (V.opens_byte Try.underlying5) h1
  have k2 := h2
  have lt2 : ∀ x ∈ p2, x.block < W.heap.size := by obtain ⟨m, hm⟩ := k2; exact DataW.trod_lt m _ _ _ hm
  obtain ⟨a2, rfl, rfl, rfl, w2⟩ := open_int Try.underlying3 (hval 2 3 v2 rfl rfl) h2
  clear hA0 hval0 hsz0 hsz
  have b2 : -9223372036854775808 ≤ a2 ∧ a2 ≤ 9223372036854775807 := by simpa [Lit.wf, IntKind.has, IntKind.min, IntKind.max, IntKind.bits, IntKind.signed] using w2
  refine (commandBack_walk (w := W) (d := (⟨a0.1, a0.2.1, a0.2.2.1, a0.2.2.2.1, a0.2.2.2.2.1.1, a0.2.2.2.2.1.2.1, a0.2.2.2.2.1.2.2.1, a0.2.2.2.2.1.2.2.2.1, a0.2.2.2.2.1.2.2.2.2, a0.2.2.2.2.2.1, a0.2.2.2.2.2.2.1.1, a0.2.2.2.2.2.2.1.2, a0.2.2.2.2.2.2.2.1, a0.2.2.2.2.2.2.2.2.1, a0.2.2.2.2.2.2.2.2.2.1.1, a0.2.2.2.2.2.2.2.2.2.1.2, a0.2.2.2.2.2.2.2.2.2.2.1.1, a0.2.2.2.2.2.2.2.2.2.2.1.2, a0.2.2.2.2.2.2.2.2.2.2.2.1, a0.2.2.2.2.2.2.2.2.2.2.2.2.1, a0.2.2.2.2.2.2.2.2.2.2.2.2.2.1, a0.2.2.2.2.2.2.2.2.2.2.2.2.2.2⟩ : CmdV)) (at_ := a2) F0_0 (fun k h => h) F1 (fun k h => h) ⟨(by have := ok0.2.2.2.2.1.2.2.1; simp only [maxLen] at this; dsimp only; omega), (by have := ok0.2.2.2.2.2.2.1.1; simp only [maxLen] at this; dsimp only; omega), (by have := ok0.2.2.2.2.2.2.1.2; simp only [maxLen] at this; dsimp only; omega), (by have := ok0.2.2.2.2.2.2.2.1; simp only [maxLen] at this; dsimp only; omega), (fun x hx => by have := (ok0.2.2.2.2.2.2.2.2.2.2.2.2.2.1.2 x hx).1; simp only [maxLen] at this; omega)⟩).2.mono ?_
  rintro e W' ⟨v, rfl, rfl, hg⟩
  have bel : Below W.heap.size W W' := ⟨hg.os, hg.tape, hg.output, hg.size, fun k hk => hg.block k hk (by simp)⟩
  exact ⟨_, rfl, _, _, _, [], _, [], hW', trodAll_mk1 (shut_bool Try.underlying4 _), (trodAll_cons_mk (Below.trod laidOut (by kernel_rfl) (of_decide_eq_true (by kernel_rfl)) k0 bel lt0) (trodAll_cons_mk (Below.trod laidOut (by kernel_rfl) (of_decide_eq_true (by kernel_rfl)) k1 bel lt1) (trodAll_cons_mk (Below.trod laidOut (by kernel_rfl) (of_decide_eq_true (by kernel_rfl)) k2 bel lt2) trodAll_mk0))), rfl, bel.frame _, fun h => by cases h⟩
theorem over : Rows.commandBackRow.holds Try.pinned (OpenSpec.ofChange Rows.commandBackSpec) :=
  OpenClaim.holds_of_wide 4 Try.f4 rfl rfl rfl rfl rfl rfl rfl ⟨rfl, rfl, rfl, rfl, rfl⟩ rfl rfl rfl rfl rfl (by kernel_rfl) Try.func4 (by kernel_rfl)
    (of_decide_eq_true (by kernel_rfl)) (by unfold Func.isWrapper; first | (rw [if_pos (by decide +kernel)]; kernel_rfl) | (rw [if_neg (by decide +kernel)]; exact ⟨rfl, rfl⟩))
    (fun os started H enc _ => lifted os started H enc)
theorem proved : Rows.CommandBackSaid := over
#print axioms proved
end Go.Proofs.Ytkklebdlbmoogaa.commandBack
namespace Go.Proofs.Ytkklebdlbmoogaa
theorem commandBack_holds : Rows.CommandBackSaid := commandBack.proved
end Go.Proofs.Ytkklebdlbmoogaa
