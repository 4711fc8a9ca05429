/- Proved here: Rows.RecordBeatsSaid: the law RecordBeats returns true at every input that fits, and its arguments read as before. No condition beyond the statement. -/
import Derived.Test.YtaokenlcjkomhaaRows
import Derived.Test.YtaokenlcjkomhaaMlr7
import Derived.WalkKit
import Derived.ProofKit
import Derived.OpenShut
import Derived.ShutString
import Derived.ChangeOld
import Derived.Below
import Derived.SizedLaws
import Derived.Carry
namespace Go.Proofs.Ytaokenlcjkomhaa.recordBeats
open Go.ChangeShapes Go.WideShapes Go.ChangeAt Go.RowKit
open Go.ChangeMaps (open_string shut_string)
set_option linter.unusedVariables false
theorem own : ownKnob Try.prog.godebug = none := by kernel_rfl
theorem laidOut : laidOutB Try.prog = true := by kernel_rfl
set_option maxRecDepth 100000 in
theorem lifted (os : Os) (started : os.Started) (H : Type) (enc : TypeId × Value → H) :
    ReturnsInHanded {} Try.checked os 6 .any (Rows.recordBeatsSpec.pre6 enc Try.prog Try.f6 Rows.recordBeatsRow.domain false) (Rows.recordBeatsSpec.post enc Try.prog Try.f6 false true false false) := by
  refine returnsInHanded_of_change_sized (C := Try.checked) own started (by kernel_rfl) Try.func6
    (ChangeSpec.witness6 (enc := enc) (C := Try.checked) false ⟨#[], #[.agg #[(.int .i64 0), (.int .i64 0), (.int .i64 0), (.int .i64 0), (.int .i64 0), (.int .i64 0), (.int .i64 0), (.slice none 0 0)], .int .i64 0, .agg #[(.int .i64 0), (.int .i64 0), (.int .i64 0), (.int .i64 0)]], []⟩ 8 (by kernel_rfl) (by kernel_rfl) (by kernel_rfl) (by kernel_rfl)) ?_
  intro W base args ds gs before hval0 hW hcnd hsz0 _
  have hsz : (DataW.weightsEach Try.prog (Try.f6.params.toList ++ Rows.recordBeatsSpec.plain.varTypes Try.prog) (ds ++ gs)).all (· ≤ reachBytes) = true := hsz0
  have hval : ∀ (j : Nat) t v, Try.f6.params[j]? = some t → args[j]? = some v → Value.okWide Try.prog W .any base t v := hval0
  have hW' := hW
  obtain ⟨p, q, hA0, hV, rfl, hfz, hnd⟩ := hW
  have hA : DataW.TrodAll enc Try.prog W 0 (fun _ => true) true Try.f6.params.toList args.toList ds p := hA0
  rw [Try.params6] at hA hval hsz
  obtain ⟨v0, vs0, d0, ds0, p0, q0, hargs, rfl, rfl, h0, r0⟩ := trodAll_cons hA
  obtain ⟨v1, vs1, d1, ds1, p1, q1, rfl, rfl, rfl, h1, r1⟩ := trodAll_cons r0
  obtain ⟨v2, vs2, d2, ds2, p2, q2, rfl, rfl, rfl, h2, r2⟩ := trodAll_cons r1
  obtain ⟨rfl, rfl, rfl⟩ := trodAll_nil r2
  obtain rfl : args = #[v0, v1, v2] := by cases args; simp_all
  obtain ⟨rfl, rfl⟩ := trodVars_none hV
  have k0 := h0
  have lt0 : ∀ x ∈ p0, x.block < W.heap.size := by obtain ⟨m, hm⟩ := k0; exact DataW.trod_lt m _ _ _ hm
  obtain ⟨a0, cs0, rfl, R0, ok0⟩ := V.open_agg (C := (V.Cod.pair (V.Cod.int .i64) (V.Cod.pair (V.Cod.int .i64) (V.Cod.pair (V.Cod.int .i64) (V.Cod.pair (V.Cod.pair (V.Cod.int .i64) (V.Cod.int .i64)) (V.Cod.pair (V.Cod.pair (V.Cod.int .i64) (V.Cod.int .i64)) (V.Cod.pair V.Cod.str (V.Cod.int .i64)).sl)))))) (.inl ⟨_, Try.underlying27⟩) (hval 0 27 v0 rfl rfl) (V.opens_struct Try.underlying27 (by kernel_rfl) (V.ops_cons (by kernel_rfl) (V.opens_i64 Try.underlying3) (V.ops_cons (by kernel_rfl) (V.opens_i64 Try.underlying3) (V.ops_cons (by kernel_rfl) (V.opens_i64 Try.underlying22) (V.ops_cons (by kernel_rfl) (V.opens_struct Try.underlying24 (by kernel_rfl) (V.ops_cons (by kernel_rfl) (V.opens_i64 Try.underlying3) (V.ops_one (by kernel_rfl) (V.opens_i64 Try.underlying3)))) (V.ops_cons (by kernel_rfl) (V.opens_struct Try.underlying24 (by kernel_rfl) (V.ops_cons (by kernel_rfl) (V.opens_i64 Try.underlying3) (V.ops_one (by kernel_rfl) (V.opens_i64 Try.underlying3)))) (V.ops_one (by kernel_rfl) (V.opens_sl Try.underlying25 (by kernel_rfl) (by show 0 < 2; decide) (V.opens_struct Try.underlying49 (by kernel_rfl) (V.ops_cons (by kernel_rfl) (V.opens_str Try.underlying9) (V.ops_one (by kernel_rfl) (V.opens_i64 Try.underlying3)))))))))))) h0
  obtain ⟨_, _, rfl, rfl, ⟨_, _, rfl, rfl, ⟨_, _, rfl, rfl, ⟨_, _, rfl, ⟨_, _, rfl, rfl, rfl⟩, ⟨_, _, rfl, ⟨_, _, rfl, rfl, rfl⟩, ⟨_, _, rfl, F0_0⟩⟩⟩⟩⟩⟩ := R0
  have z0 := V.field_size hsz (j := 0) (t := 27) rfl rfl Try.underlying27 (i := 5) rfl Try.underlying25 (by kernel_rfl) k0 (n := a0.2.2.2.2.2.length) rfl
  have zb : Try.prog.bytesOf 49 = 24 := by kernel_rfl
  rw [zb] at z0
  simp only [reachBytes] at z0
  have k1 := h1
  have lt1 : ∀ x ∈ p1, x.block < W.heap.size := by obtain ⟨m, hm⟩ := k1; exact DataW.trod_lt m _ _ _ hm
  obtain ⟨a1, rfl, rfl, rfl, w1⟩ := open_int Try.underlying3 (hval 1 3 v1 rfl rfl) h1
  have k2 := h2
  have lt2 : ∀ x ∈ p2, x.block < W.heap.size := by obtain ⟨m, hm⟩ := k2; exact DataW.trod_lt m _ _ _ hm
  obtain ⟨a2, cs2, rfl, R2, ok2⟩ := V.open_agg (C := (V.Cod.pair (V.Cod.pair (V.Cod.int .i64) (V.Cod.int .i64)) (V.Cod.pair (V.Cod.int .i64) (V.Cod.int .i64)))) (.inr ⟨_, _, Try.underlying43⟩) (hval 2 43 v2 rfl rfl) (V.opens_array (s := 2) Try.underlying43 (by kernel_rfl) (by kernel_rfl) (V.ops_cons (by kernel_rfl) (V.opens_struct Try.underlying24 (by kernel_rfl) (V.ops_cons (by kernel_rfl) (V.opens_i64 Try.underlying3) (V.ops_one (by kernel_rfl) (V.opens_i64 Try.underlying3)))) (V.ops_one (by kernel_rfl) (V.opens_struct Try.underlying24 (by kernel_rfl) (V.ops_cons (by kernel_rfl) (V.opens_i64 Try.underlying3) (V.ops_one (by kernel_rfl) (V.opens_i64 Try.underlying3))))))) h2
  obtain ⟨_, _, rfl, ⟨_, _, rfl, rfl, rfl⟩, ⟨_, _, rfl, rfl, rfl⟩⟩ := R2
  clear hA0 hval0 hsz0 hsz
  have b1 : -9223372036854775808 ≤ a1 ∧ a1 ≤ 9223372036854775807 := by simpa [Lit.wf, IntKind.has, IntKind.min, IntKind.max, IntKind.bits, IntKind.signed] using w1
  refine (recordBeats_walk (w := W) (d := (⟨a0.1, a0.2.1, a0.2.2.1, a0.2.2.2.1.1, a0.2.2.2.1.2, a0.2.2.2.2.1.1, a0.2.2.2.2.1.2, a0.2.2.2.2.2⟩ : RecV)) (ep := a1) (nw := a2.1.1) (nl := a2.1.2) (mw := a2.2.1) (ml := a2.2.2) F0_0 (fun k h => h) (fun x hx => by have := (ok0.2.2.2.2.2.2 x hx).1; simp only [maxLen] at this; omega) (by simp only; omega)).2.mono ?_
  rintro e W' ⟨v, rfl, rfl, hg⟩
  have bel : Below W.heap.size W W' := ⟨hg.os, hg.tape, hg.output, hg.size, fun k hk => hg.block k hk (by simp)⟩
  exact ⟨_, rfl, _, _, _, [], _, [], hW', trodAll_mk1 (shut_bool Try.underlying4 _), (trodAll_cons_mk (Below.trod laidOut (by kernel_rfl) (of_decide_eq_true (by kernel_rfl)) k0 bel lt0) (trodAll_cons_mk (Below.trod laidOut (by kernel_rfl) (of_decide_eq_true (by kernel_rfl)) k1 bel lt1) (trodAll_cons_mk (Below.trod laidOut (by kernel_rfl) (of_decide_eq_true (by kernel_rfl)) k2 bel lt2) trodAll_mk0))), rfl, bel.frame _, fun h => by cases h⟩
theorem over : Rows.recordBeatsRow.holds Try.pinned (OpenSpec.ofChange Rows.recordBeatsSpec) :=
  OpenClaim.holds_of_wide 6 Try.f6 rfl rfl rfl rfl rfl rfl rfl ⟨rfl, rfl, rfl, rfl, rfl⟩ rfl rfl rfl rfl rfl (by kernel_rfl) Try.func6 (by kernel_rfl)
    (of_decide_eq_true (by kernel_rfl)) (by unfold Func.isWrapper; first | (rw [if_pos (by decide +kernel)]; kernel_rfl) | (rw [if_neg (by decide +kernel)]; exact ⟨rfl, rfl⟩))
    (fun os started H enc _ => lifted os started H enc)
theorem proved : Rows.RecordBeatsSaid := over
#print axioms proved
end Go.Proofs.Ytaokenlcjkomhaa.recordBeats
namespace Go.Proofs.Ytaokenlcjkomhaa
theorem recordBeats_holds : Rows.RecordBeatsSaid := recordBeats.proved
end Go.Proofs.Ytaokenlcjkomhaa
