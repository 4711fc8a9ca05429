/- Proved here: Rows.JournalOutlivesSaid: the law JournalOutlives returns true at every input that fits, and its arguments read as before. No condition beyond the statement. -/
import Derived.Test.YtnbijpijbhkcpaaRows
import Derived.Test.YtnbijpijbhkcpaaMlj5
import Derived.WalkKit
import Derived.ProofKit
import Derived.OpenShut
import Derived.ShutString
import Derived.ChangeOld
import Derived.Below
import Derived.SizedLaws
import Derived.Carry
namespace Go.Proofs.Ytnbijpijbhkcpaa.journalOutlives
open Go.ChangeShapes Go.WideShapes Go.ChangeAt Go.RowKit
open Go.ChangeMaps (open_string shut_string)
set_option linter.unusedVariables false
theorem own : ownKnob Try.prog.godebug = none := by kernel_rfl
theorem laidOut : laidOutB Try.prog = true := by kernel_rfl
set_option maxRecDepth 100000 in
theorem lifted (os : Os) (started : os.Started) (H : Type) (enc : TypeId × Value → H) :
    ReturnsInHanded {} Try.checked os 5 .any (Rows.journalOutlivesSpec.pre6 enc Try.prog Try.f5 Rows.journalOutlivesRow.domain false) (Rows.journalOutlivesSpec.post enc Try.prog Try.f5 false true false false) := by
  refine returnsInHanded_of_change_sized (C := Try.checked) own started (by kernel_rfl) Try.func5
    (ChangeSpec.witness6 (enc := enc) (C := Try.checked) false ⟨#[], #[.slice none 0 0, .int .i64 0, .agg #[(.bool false), (.bool false)]], []⟩ 8 (by kernel_rfl) (by kernel_rfl) (by kernel_rfl) (by kernel_rfl)) ?_
  intro W base args ds gs before hval0 hW hcnd hsz0 _
  have hsz : (DataW.weightsEach Try.prog (Try.f5.params.toList ++ Rows.journalOutlivesSpec.plain.varTypes Try.prog) (ds ++ gs)).all (· ≤ reachBytes) = true := hsz0
  have hval : ∀ (j : Nat) t v, Try.f5.params[j]? = some t → args[j]? = some v → Value.okWide Try.prog W .any base t v := hval0
  have hW' := hW
  obtain ⟨p, q, hA0, hV, rfl, hfz, hnd⟩ := hW
  have hA : DataW.TrodAll enc Try.prog W 0 (fun _ => true) true Try.f5.params.toList args.toList ds p := hA0
  rw [Try.params5] at hA hval hsz
  obtain ⟨v0, vs0, d0, ds0, p0, q0, hargs, rfl, rfl, h0, r0⟩ := trodAll_cons hA
  obtain ⟨v1, vs1, d1, ds1, p1, q1, rfl, rfl, rfl, h1, r1⟩ := trodAll_cons r0
  obtain ⟨v2, vs2, d2, ds2, p2, q2, rfl, rfl, rfl, h2, r2⟩ := trodAll_cons r1
  obtain ⟨rfl, rfl, rfl⟩ := trodAll_nil r2
  obtain rfl : args = #[v0, v1, v2] := by cases args; simp_all
  obtain ⟨rfl, rfl⟩ := trodVars_none hV
  have k0 := h0
  have lt0 : ∀ x ∈ p0, x.block < W.heap.size := by obtain ⟨m, hm⟩ := k0; exact DataW.trod_lt m _ _ _ hm
  obtain ⟨a0, c0, xs0, rfl, F0, ok0⟩ := V.open_slc (C := (V.Cod.pair (V.Cod.int .i64) (V.Cod.pair (V.Cod.int .i64) (V.Cod.pair (V.Cod.int .i64) (V.Cod.pair V.Cod.byte.sl (V.Cod.pair V.Cod.bool V.Cod.bool)))))) Try.underlying40 (hval 0 40 v0 rfl rfl) (by kernel_rfl) (by show 0 < 6; decide) (V.opens_struct Try.underlying42 (by kernel_rfl) (V.ops_cons (by kernel_rfl) (V.opens_i64 Try.underlying3) (V.ops_cons (by kernel_rfl) (V.opens_i64 Try.underlying3) (V.ops_cons (by kernel_rfl) (V.opens_i64 Try.underlying3) (V.ops_cons (by kernel_rfl) (V.opens_sl Try.underlying22 (by kernel_rfl) (by show 0 < 1; decide) (V.opens_byte Try.underlying5)) (V.ops_cons (by kernel_rfl) (V.opens_bool Try.underlying4) (V.ops_one (by kernel_rfl) (V.opens_bool Try.underlying4)))))))) h0
  have k1 := h1
  have lt1 : ∀ x ∈ p1, x.block < W.heap.size := by obtain ⟨m, hm⟩ := k1; exact DataW.trod_lt m _ _ _ hm
  obtain ⟨a1, rfl, rfl, rfl, w1⟩ := open_int Try.underlying3 (hval 1 3 v1 rfl rfl) h1
  have k2 := h2
  have lt2 : ∀ x ∈ p2, x.block < W.heap.size := by obtain ⟨m, hm⟩ := k2; exact DataW.trod_lt m _ _ _ hm
  obtain ⟨a2, cs2, rfl, R2, ok2⟩ := V.open_agg (C := (V.Cod.pair V.Cod.bool V.Cod.bool)) (.inr ⟨_, _, Try.underlying53⟩) (hval 2 53 v2 rfl rfl) (V.opens_array (s := 1) Try.underlying53 (by kernel_rfl) (by kernel_rfl) (V.ops_cons (by kernel_rfl) (V.opens_bool Try.underlying4) (V.ops_one (by kernel_rfl) (V.opens_bool Try.underlying4)))) h2
  obtain ⟨_, _, rfl, rfl, rfl⟩ := R2
  clear hA0 hval0 hsz0 hsz
  have b1 : -9223372036854775808 ≤ a1 ∧ a1 ≤ 9223372036854775807 := by simpa [Lit.wf, IntKind.has, IntKind.min, IntKind.max, IntKind.bits, IntKind.signed] using w1
  refine (journalOutlives_walk (w := W) F0 (fun k h => h)).2.mono ?_
  rintro e W' ⟨v, rfl, rfl, hg⟩
  have bel : Below W.heap.size W W' := ⟨hg.os, hg.tape, hg.output, hg.size, fun k hk => hg.block k hk (by simp)⟩
  exact ⟨_, rfl, _, _, _, [], _, [], hW', trodAll_mk1 (shut_bool Try.underlying4 _), (trodAll_cons_mk (Below.trod laidOut (by kernel_rfl) (of_decide_eq_true (by kernel_rfl)) k0 bel lt0) (trodAll_cons_mk (Below.trod laidOut (by kernel_rfl) (of_decide_eq_true (by kernel_rfl)) k1 bel lt1) (trodAll_cons_mk (Below.trod laidOut (by kernel_rfl) (of_decide_eq_true (by kernel_rfl)) k2 bel lt2) trodAll_mk0))), rfl, bel.frame _, fun h => by cases h⟩
theorem over : Rows.journalOutlivesRow.holds Try.pinned (OpenSpec.ofChange Rows.journalOutlivesSpec) :=
  OpenClaim.holds_of_wide 5 Try.f5 rfl rfl rfl rfl rfl rfl rfl ⟨rfl, rfl, rfl, rfl, rfl⟩ rfl rfl rfl rfl rfl (by kernel_rfl) Try.func5 (by kernel_rfl)
    (of_decide_eq_true (by kernel_rfl)) (by unfold Func.isWrapper; first | (rw [if_pos (by decide +kernel)]; kernel_rfl) | (rw [if_neg (by decide +kernel)]; exact ⟨rfl, rfl⟩))
    (fun os started H enc _ => lifted os started H enc)
theorem proved : Rows.JournalOutlivesSaid := over
#print axioms proved
end Go.Proofs.Ytnbijpijbhkcpaa.journalOutlives
namespace Go.Proofs.Ytnbijpijbhkcpaa
theorem journalOutlives_holds : Rows.JournalOutlivesSaid := journalOutlives.proved
end Go.Proofs.Ytnbijpijbhkcpaa
