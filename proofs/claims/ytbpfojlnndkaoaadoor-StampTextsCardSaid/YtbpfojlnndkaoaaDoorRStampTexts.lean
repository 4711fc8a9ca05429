/- Proved here: Rows.StampTextsSaid: the law StampTexts returns true at every input that fits, and its arguments read as before. No condition beyond the statement. -/
import Derived.Test.YtbpfojlnndkaoaaDoorRows
import Derived.Test.YtbpfojlnndkaoaaDoorTie
import Derived.Test.YtbpfojlnndkaoaaDoorCards
import Derived.Test.YtbpfojlnndkaoaaDoorRL
import Derived.Test.YtbpfojlnndkaoaaDoorMtx
import Derived.WalkKit
import Derived.ProofKit
import Derived.OpenShut
import Derived.ShutString
import Derived.ChangeOld
import Derived.Below
import Derived.SizedLaws
import Derived.Carry
import Derived.SevenTiedAt
import Derived.LaidHandle
import Derived.ChangeSame
import Derived.ChangeVars
import Derived.JoinedOf
namespace Go.Proofs.YtbpfojlnndkaoaaDoor.stampTexts
open Go.ChangeShapes Go.WideShapes Go.ChangeAt Go.RowKit
open Go.ChangeMaps (open_string shut_string)
set_option linter.unusedVariables false
theorem own : ownKnob Tryd.prog.godebug = none := by kernel_rfl
theorem laidOut : laidOutB Tryd.prog = true := by kernel_rfl
set_option maxRecDepth 100000 in
theorem lifted (os : Os) (started : os.Started) (H : Type) (enc : TypeId × Value → H) :
    ReturnsInHanded {} Tryd.checked os 3 .any (fun w args => (Rows.stampTextsSpec.pre enc Tryd.prog Tryd.f3 Rows.stampTextsRow.domain false w args ∧ laidMetH Tryd.prog Rows.stampTextsRow.laid w) ∧ sizedMet enc Tryd.prog Tryd.f3 (OpenSpec.ofChange Rows.stampTextsSpec) false w args) (Rows.stampTextsSpec.post enc Tryd.prog Tryd.f3 false true false false) := by
  refine returnsInHanded_of_change_and (C := Tryd.checked) (X := fun w _ => laidMetH Tryd.prog Rows.stampTextsRow.laid w) (fun _ _ _ hh h => h.of_heap hh) own started (by kernel_rfl) Tryd.func3
    (ChangeSpec.witness_at (enc := enc) (C := Tryd.checked) (os := os) (X := fun w _ => laidMetH Tryd.prog Rows.stampTextsRow.laid w) false (laidWorld os) #[.agg #[(.int .i64 0), (.int .i64 0)], .agg #[(.int .i64 0), (.int .i64 0)]] 8 rfl (by kernel_rfl) (by kernel_rfl) (by kernel_rfl) (by kernel_rfl) (by kernel_rfl) (laidWorld_met os _)) ?_
  intro W base args ds gs before hval0 hW hcnd hsz0 hL _
  have hsz : (DataW.weightsEach Tryd.prog (Tryd.f3.params.toList ++ Rows.stampTextsSpec.plain.varTypes Tryd.prog) (ds ++ gs)).all (· ≤ reachBytes) = true := hsz0
  have hval : ∀ (j : Nat) t v, Tryd.f3.params[j]? = some t → args[j]? = some v → Value.okWide Tryd.prog W .any base t v := hval0
  have hW' := hW
  obtain ⟨p, q, hA0, hV, rfl, hfz, hnd⟩ := hW
  have hA : DataW.TrodAll enc Tryd.prog W 0 (fun _ => true) true Tryd.f3.params.toList args.toList ds p := hA0
  rw [Tryd.params3] at hA hval hsz
  obtain ⟨v0, vs0, d0, ds0, p0, q0, hargs, rfl, rfl, h0, r0⟩ := trodAll_cons hA
  obtain ⟨v1, vs1, d1, ds1, p1, q1, rfl, rfl, rfl, h1, r1⟩ := trodAll_cons r0
  obtain ⟨rfl, rfl, rfl⟩ := trodAll_nil r1
  obtain rfl : args = #[v0, v1] := by cases args; simp_all
  obtain ⟨rfl, rfl⟩ := trodVars_none hV
  have k0 := h0
  have lt0 : ∀ x ∈ p0, x.block < W.heap.size := by obtain ⟨m, hm⟩ := k0; exact DataW.trod_lt m _ _ _ hm
  obtain ⟨a0, cs0, rfl, R0, ok0⟩ := V.open_agg (C := (V.Cod.pair (V.Cod.int .i64) (V.Cod.int .i64))) (.inl ⟨_, Tryd.underlying23⟩) (hval 0 23 v0 rfl rfl) (V.opens_struct Tryd.underlying23 (by kernel_rfl) (V.ops_cons (by kernel_rfl) (V.opens_i64 Tryd.underlying3) (V.ops_one (by kernel_rfl) (V.opens_i64 Tryd.underlying3)))) h0
  obtain ⟨_, _, rfl, rfl, rfl⟩ := R0
  have FT : Tb W := ⟨tab3 (i := 0) (t := 77) (e := 65) (n := 20) (by kernel_rfl) (by kernel_rfl) Tryd.underlying77 Tryd.underlying65 (by kernel_rfl) (by kernel_rfl) (show laidMet Tryd.prog (_ :: _ :: ("internal/strconv.uint64pow10", Go.Lib.tabData .u64 Go.Lib.pow10Tab) :: []) W from hL)⟩
  have k1 := h1
  have lt1 : ∀ x ∈ p1, x.block < W.heap.size := by obtain ⟨m, hm⟩ := k1; exact DataW.trod_lt m _ _ _ hm
  obtain ⟨a1, cs1, rfl, R1, ok1⟩ := V.open_agg (C := (V.Cod.pair (V.Cod.int .i64) (V.Cod.int .i64))) (.inl ⟨_, Tryd.underlying23⟩) (hval 1 23 v1 rfl rfl) (V.opens_struct Tryd.underlying23 (by kernel_rfl) (V.ops_cons (by kernel_rfl) (V.opens_i64 Tryd.underlying3) (V.ops_one (by kernel_rfl) (V.opens_i64 Tryd.underlying3)))) h1
  obtain ⟨_, _, rfl, rfl, rfl⟩ := R1
  clear hA0 hval0 hsz0 hsz
  refine (stampTexts_walk (w := W) (a := a0.1) (b := a0.2) (c := a1.1) (d := a1.2) (by have := ok0.1; omega) (by have := ok0.2; omega) (by have := ok1.1; omega) (by have := ok1.2; omega) FT).2.mono ?_
  rintro e W' ⟨v, rfl, rfl, hg⟩
  have bel : Below W.heap.size W W' := ⟨hg.os, hg.tape, hg.output, hg.size, fun k hk => hg.block k hk (by simp)⟩
  exact ⟨_, rfl, _, _, _, [], _, [], hW', trodAll_mk1 (shut_bool Tryd.underlying4 _), (trodAll_cons_mk (Below.trod laidOut (by kernel_rfl) (of_decide_eq_true (by kernel_rfl)) k0 bel lt0) (trodAll_cons_mk (Below.trod laidOut (by kernel_rfl) (of_decide_eq_true (by kernel_rfl)) k1 bel lt1) trodAll_mk0)), rfl, bel.frame _, fun h => by cases h⟩
theorem over : Rows.stampTextsRow.holds Tryd.pinned (OpenSpec.ofChange Rows.stampTextsSpec) :=
  OpenClaim.holds_of_wide 3 Tryd.f3 rfl rfl rfl rfl rfl rfl rfl ⟨rfl, rfl, rfl, rfl, rfl⟩ rfl rfl rfl rfl rfl (by kernel_rfl) Tryd.func3 (by kernel_rfl)
    (of_decide_eq_true (by kernel_rfl)) (by unfold Func.isWrapper; first | (rw [if_pos (by decide +kernel)]; kernel_rfl) | (rw [if_neg (by decide +kernel)]; exact ⟨rfl, rfl⟩))
    (fun os started H enc _ => lifted os started H enc)
theorem proved : Rows.StampTextsSaid := over
#print axioms proved
end Go.Proofs.YtbpfojlnndkaoaaDoor.stampTexts
namespace Go.Proofs.YtbpfojlnndkaoaaDoor
theorem stampTexts_holds : Rows.StampTextsSaid := stampTexts.proved
theorem stampTexts_card : Rows.StampTextsCardSaid :=
  Claim7.holds_tied_plain_at .later [] [.data, .data, .data] true (true, "6e679ea8d9b722efa1fe9bd0a58ec18ea01b5cc0c4205afa5697783e08763215") false
    stampTexts_holds (fun _ h => by cases h) (by kernel_rfl) (fun _ h => by cases h) stampTexts_row_tie rfl ⟨rfl, rfl⟩ (by kernel_rfl) rfl
    (fun f fn hf hfn => by
      obtain rfl : f = 3 := Option.some.inj ((show Tryd.prog.funcNamed "wampum/wampumlaw03.StampTexts" = some 3 by kernel_rfl).symm.trans hf) |>.symm
      obtain rfl : fn = Tryd.f3 := (Option.some.inj (Tryd.func3.symm.trans hfn)).symm
      refine ⟨by kernel_rfl, fun j t ht => ?_⟩
      rw [Tryd.params3] at ht
      have hall : (#[23, 23] : Array Nat).toList.all (fun t => !Tryd.prog.wantsStandIn t) = true := by kernel_rfl
      have hm : t ∈ (#[23, 23] : Array Nat).toList := by rw [← Array.getElem?_toList] at ht; exact List.mem_of_getElem? ht
      exact (show Tryd.prog.wantsStandIn t = false by simpa using List.all_eq_true.1 hall t hm))
    (by kernel_rfl)
#print axioms stampTexts_card
end Go.Proofs.YtbpfojlnndkaoaaDoor
