/-
  No cell of these rows narrows 'for every input' (looked for: loops, veiled, ifaces, maps, wideKeys, modest, calm, conditions, laid).
  DERIVED. THE GIVEN ROWS OF THIS SEAT. 12 by the template 'for every input the law returns true; each argument reads behind the call as it read before'; 0 by the template 'total and deterministic' (their statements: YtbbfjcobjbopmaaTotals.lean).
  GIVEN WITH THE SEED: the statements are not yours to turn. If you find one false, say at which input.
  Laid BY PROGRAM, IN A SANDBOX (cutbox-rows.mjs): the forced cells as the released guide's own fill.sh prints them over the translation 93fb7a8cb05b4745… (all of the seat's roots in one cut). By AI agents, Wed Nov 11 2026. No macro, syntax, notation, axiom, sorry.
-/
import Derived.Test.YtbbfjcobjbopmaaChecked
import GoSem.Claim
import GoSem.ClaimJoined
import GoSem.ClaimMapViews
import Derived.JoinedTies
import Derived.KernelRfl
namespace Go.Proofs.Ytbbfjcobjbopmaa
/- THE CELL 'sum', in the pinned program and in every row, IS THE sha256 OF THE DUMP (.gsa) THAT YtbbfjcobjbopmaaProg.lean LOADS. Nothing in Lean hashes anything: it is a label: what it is worth is what the hold of that sum in a sandbox is worth. -/
noncomputable def Try.pinned : Pinned := { name := "ytbbfjcobjbopmaa", sum := "93fb7a8cb05b4745d1f49fbf1af178c437df3cac9e2daaf77440bbd0cbb02a6a", checked := Try.checked }
namespace Rows
def none {H : Type} : Left H := { results := [], args := [] }

/-- 'wampumlaw02.SealStops': WHATEVER THE INPUT: true; the input reads as it did. -/
def sealStopsSpec : ChangeSpec := { name := "sealStops", fn := fun _ => fun
  | [d1, d2, d3] => { results := [.lit (.bool true)], args := [d1, d2, d3] }
  | _ => none }
def sealStopsRow : OpenClaim := { program := "ytbbfjcobjbopmaa", sum := "93fb7a8cb05b4745d1f49fbf1af178c437df3cac9e2daaf77440bbd0cbb02a6a", func := "wampum/wampumlaw02.SealStops", spec := "sealStops", unfollowed := true, recurses := true, apart := false }
def SealStopsSaid : Prop := sealStopsRow.holds Try.pinned (OpenSpec.ofChange sealStopsSpec)

/-- ITS FALSE NEIGHBOUR: 'it returns false'. Refute it at one input. -/
def sealStopsWrong : ChangeSpec := { name := "sealStops", fn := fun _ => fun
  | [d1, d2, d3] => { results := [.lit (.bool false)], args := [d1, d2, d3] }
  | _ => none }
def SealStopsWrongFalsely : Prop := sealStopsRow.holds Try.pinned (OpenSpec.ofChange sealStopsWrong)

/-- 'wampumlaw01.PackPrefix': WHATEVER THE INPUT: true; the input reads as it did. -/
def packPrefixSpec : ChangeSpec := { name := "packPrefix", fn := fun _ => fun
  | [d1, d2, d3] => { results := [.lit (.bool true)], args := [d1, d2, d3] }
  | _ => none }
def packPrefixRow : OpenClaim := { program := "ytbbfjcobjbopmaa", sum := "93fb7a8cb05b4745d1f49fbf1af178c437df3cac9e2daaf77440bbd0cbb02a6a", func := "wampum/wampumlaw01.PackPrefix", spec := "packPrefix", apart := false }
def PackPrefixSaid : Prop := packPrefixRow.holds Try.pinned (OpenSpec.ofChange packPrefixSpec)

/-- ITS FALSE NEIGHBOUR: 'it returns false'. Refute it at one input. -/
def packPrefixWrong : ChangeSpec := { name := "packPrefix", fn := fun _ => fun
  | [d1, d2, d3] => { results := [.lit (.bool false)], args := [d1, d2, d3] }
  | _ => none }
def PackPrefixWrongFalsely : Prop := packPrefixRow.holds Try.pinned (OpenSpec.ofChange packPrefixWrong)

/-- 'wampumlaw02.SealTells': WHATEVER THE INPUT: true; the input reads as it did. -/
def sealTellsSpec : ChangeSpec := { name := "sealTells", fn := fun _ => fun
  | [d] => { results := [.lit (.bool true)], args := [d] }
  | _ => none }
def sealTellsRow : OpenClaim := { program := "ytbbfjcobjbopmaa", sum := "93fb7a8cb05b4745d1f49fbf1af178c437df3cac9e2daaf77440bbd0cbb02a6a", func := "wampum/wampumlaw02.SealTells", spec := "sealTells", unfollowed := true, recurses := true, apart := false }
def SealTellsSaid : Prop := sealTellsRow.holds Try.pinned (OpenSpec.ofChange sealTellsSpec)

/-- ITS FALSE NEIGHBOUR: 'it returns false'. Refute it at one input. -/
def sealTellsWrong : ChangeSpec := { name := "sealTells", fn := fun _ => fun
  | [d] => { results := [.lit (.bool false)], args := [d] }
  | _ => none }
def SealTellsWrongFalsely : Prop := sealTellsRow.holds Try.pinned (OpenSpec.ofChange sealTellsWrong)

/-- 'wampumlaw02.SealBack': WHATEVER THE INPUT: true; the input reads as it did. -/
def sealBackSpec : ChangeSpec := { name := "sealBack", fn := fun _ => fun
  | [d1, d2] => { results := [.lit (.bool true)], args := [d1, d2] }
  | _ => none }
def sealBackRow : OpenClaim := { program := "ytbbfjcobjbopmaa", sum := "93fb7a8cb05b4745d1f49fbf1af178c437df3cac9e2daaf77440bbd0cbb02a6a", func := "wampum/wampumlaw02.SealBack", spec := "sealBack", unfollowed := true, recurses := true, apart := false }
def SealBackSaid : Prop := sealBackRow.holds Try.pinned (OpenSpec.ofChange sealBackSpec)

/-- ITS FALSE NEIGHBOUR: 'it returns false'. Refute it at one input. -/
def sealBackWrong : ChangeSpec := { name := "sealBack", fn := fun _ => fun
  | [d1, d2] => { results := [.lit (.bool false)], args := [d1, d2] }
  | _ => none }
def SealBackWrongFalsely : Prop := sealBackRow.holds Try.pinned (OpenSpec.ofChange sealBackWrong)

/-- 'wampumlaw02.SealTurned': WHATEVER THE INPUT: true; the input reads as it did. -/
def sealTurnedSpec : ChangeSpec := { name := "sealTurned", fn := fun _ => fun
  | [d1, d2, d3] => { results := [.lit (.bool true)], args := [d1, d2, d3] }
  | _ => none }
def sealTurnedRow : OpenClaim := { program := "ytbbfjcobjbopmaa", sum := "93fb7a8cb05b4745d1f49fbf1af178c437df3cac9e2daaf77440bbd0cbb02a6a", func := "wampum/wampumlaw02.SealTurned", spec := "sealTurned", unfollowed := true, recurses := true, apart := false }
def SealTurnedSaid : Prop := sealTurnedRow.holds Try.pinned (OpenSpec.ofChange sealTurnedSpec)

/-- ITS FALSE NEIGHBOUR: 'it returns false'. Refute it at one input. -/
def sealTurnedWrong : ChangeSpec := { name := "sealTurned", fn := fun _ => fun
  | [d1, d2, d3] => { results := [.lit (.bool false)], args := [d1, d2, d3] }
  | _ => none }
def SealTurnedWrongFalsely : Prop := sealTurnedRow.holds Try.pinned (OpenSpec.ofChange sealTurnedWrong)

/-- 'wampumlaw02.SealOwn': WHATEVER THE INPUT: true; the input reads as it did. -/
def sealOwnSpec : ChangeSpec := { name := "sealOwn", fn := fun _ => fun
  | [d1, d2] => { results := [.lit (.bool true)], args := [d1, d2] }
  | _ => none }
def sealOwnRow : OpenClaim := { program := "ytbbfjcobjbopmaa", sum := "93fb7a8cb05b4745d1f49fbf1af178c437df3cac9e2daaf77440bbd0cbb02a6a", func := "wampum/wampumlaw02.SealOwn", spec := "sealOwn", unfollowed := true, recurses := true, apart := false }
def SealOwnSaid : Prop := sealOwnRow.holds Try.pinned (OpenSpec.ofChange sealOwnSpec)

/-- ITS FALSE NEIGHBOUR: 'it returns false'. Refute it at one input. -/
def sealOwnWrong : ChangeSpec := { name := "sealOwn", fn := fun _ => fun
  | [d1, d2] => { results := [.lit (.bool false)], args := [d1, d2] }
  | _ => none }
def SealOwnWrongFalsely : Prop := sealOwnRow.holds Try.pinned (OpenSpec.ofChange sealOwnWrong)

/-- 'wampumlaw01.PackWrites': WHATEVER THE INPUT: true; the input reads as it did. -/
def packWritesSpec : ChangeSpec := { name := "packWrites", fn := fun _ => fun
  | [d] => { results := [.lit (.bool true)], args := [d] }
  | _ => none }
def packWritesRow : OpenClaim := { program := "ytbbfjcobjbopmaa", sum := "93fb7a8cb05b4745d1f49fbf1af178c437df3cac9e2daaf77440bbd0cbb02a6a", func := "wampum/wampumlaw01.PackWrites", spec := "packWrites", apart := false }
def PackWritesSaid : Prop := packWritesRow.holds Try.pinned (OpenSpec.ofChange packWritesSpec)

/-- ITS FALSE NEIGHBOUR: 'it returns false'. Refute it at one input. -/
def packWritesWrong : ChangeSpec := { name := "packWrites", fn := fun _ => fun
  | [d] => { results := [.lit (.bool false)], args := [d] }
  | _ => none }
def PackWritesWrongFalsely : Prop := packWritesRow.holds Try.pinned (OpenSpec.ofChange packWritesWrong)

/-- 'wampumlaw01.PackLengths': WHATEVER THE INPUT: true; the input reads as it did. -/
def packLengthsSpec : ChangeSpec := { name := "packLengths", fn := fun _ => fun
  | [d1, d2, d3] => { results := [.lit (.bool true)], args := [d1, d2, d3] }
  | _ => none }
def packLengthsRow : OpenClaim := { program := "ytbbfjcobjbopmaa", sum := "93fb7a8cb05b4745d1f49fbf1af178c437df3cac9e2daaf77440bbd0cbb02a6a", func := "wampum/wampumlaw01.PackLengths", spec := "packLengths", apart := false }
def PackLengthsSaid : Prop := packLengthsRow.holds Try.pinned (OpenSpec.ofChange packLengthsSpec)

/-- ITS FALSE NEIGHBOUR: 'it returns false'. Refute it at one input. -/
def packLengthsWrong : ChangeSpec := { name := "packLengths", fn := fun _ => fun
  | [d1, d2, d3] => { results := [.lit (.bool false)], args := [d1, d2, d3] }
  | _ => none }
def PackLengthsWrongFalsely : Prop := packLengthsRow.holds Try.pinned (OpenSpec.ofChange packLengthsWrong)

/-- 'wampumlaw01.PackReads': WHATEVER THE INPUT: true; the input reads as it did. -/
def packReadsSpec : ChangeSpec := { name := "packReads", fn := fun _ => fun
  | [d1, d2] => { results := [.lit (.bool true)], args := [d1, d2] }
  | _ => none }
def packReadsRow : OpenClaim := { program := "ytbbfjcobjbopmaa", sum := "93fb7a8cb05b4745d1f49fbf1af178c437df3cac9e2daaf77440bbd0cbb02a6a", func := "wampum/wampumlaw01.PackReads", spec := "packReads", apart := false }
def PackReadsSaid : Prop := packReadsRow.holds Try.pinned (OpenSpec.ofChange packReadsSpec)

/-- ITS FALSE NEIGHBOUR: 'it returns false'. Refute it at one input. -/
def packReadsWrong : ChangeSpec := { name := "packReads", fn := fun _ => fun
  | [d1, d2] => { results := [.lit (.bool false)], args := [d1, d2] }
  | _ => none }
def PackReadsWrongFalsely : Prop := packReadsRow.holds Try.pinned (OpenSpec.ofChange packReadsWrong)

/-- 'wampumlaw01.PackNil': WHATEVER THE INPUT: true; the input reads as it did. -/
def packNilSpec : ChangeSpec := { name := "packNil", fn := fun _ => fun
  | [d] => { results := [.lit (.bool true)], args := [d] }
  | _ => none }
def packNilRow : OpenClaim := { program := "ytbbfjcobjbopmaa", sum := "93fb7a8cb05b4745d1f49fbf1af178c437df3cac9e2daaf77440bbd0cbb02a6a", func := "wampum/wampumlaw01.PackNil", spec := "packNil", apart := false }
def PackNilSaid : Prop := packNilRow.holds Try.pinned (OpenSpec.ofChange packNilSpec)

/-- ITS FALSE NEIGHBOUR: 'it returns false'. Refute it at one input. -/
def packNilWrong : ChangeSpec := { name := "packNil", fn := fun _ => fun
  | [d] => { results := [.lit (.bool false)], args := [d] }
  | _ => none }
def PackNilWrongFalsely : Prop := packNilRow.holds Try.pinned (OpenSpec.ofChange packNilWrong)

/-- 'wampumlaw01.PackBack': WHATEVER THE INPUT: true; the input reads as it did. -/
def packBackSpec : ChangeSpec := { name := "packBack", fn := fun _ => fun
  | [d] => { results := [.lit (.bool true)], args := [d] }
  | _ => none }
def packBackRow : OpenClaim := { program := "ytbbfjcobjbopmaa", sum := "93fb7a8cb05b4745d1f49fbf1af178c437df3cac9e2daaf77440bbd0cbb02a6a", func := "wampum/wampumlaw01.PackBack", spec := "packBack", apart := false }
def PackBackSaid : Prop := packBackRow.holds Try.pinned (OpenSpec.ofChange packBackSpec)

/-- ITS FALSE NEIGHBOUR: 'it returns false'. Refute it at one input. -/
def packBackWrong : ChangeSpec := { name := "packBack", fn := fun _ => fun
  | [d] => { results := [.lit (.bool false)], args := [d] }
  | _ => none }
def PackBackWrongFalsely : Prop := packBackRow.holds Try.pinned (OpenSpec.ofChange packBackWrong)

/-- 'wampumlaw01.PackOne': WHATEVER THE INPUT: true; the input reads as it did. -/
def packOneSpec : ChangeSpec := { name := "packOne", fn := fun _ => fun
  | [d1, d2] => { results := [.lit (.bool true)], args := [d1, d2] }
  | _ => none }
def packOneRow : OpenClaim := { program := "ytbbfjcobjbopmaa", sum := "93fb7a8cb05b4745d1f49fbf1af178c437df3cac9e2daaf77440bbd0cbb02a6a", func := "wampum/wampumlaw01.PackOne", spec := "packOne", apart := false }
def PackOneSaid : Prop := packOneRow.holds Try.pinned (OpenSpec.ofChange packOneSpec)

/-- ITS FALSE NEIGHBOUR: 'it returns false'. Refute it at one input. -/
def packOneWrong : ChangeSpec := { name := "packOne", fn := fun _ => fun
  | [d1, d2] => { results := [.lit (.bool false)], args := [d1, d2] }
  | _ => none }
def PackOneWrongFalsely : Prop := packOneRow.holds Try.pinned (OpenSpec.ofChange packOneWrong)

/- THE SECOND FORM. 'bulk': how many values and letters a reading holds, each counted each time it is reached (what is shared counts as often as it is met; a slice's spare places count too). A statement '..UptoSaid' is the law's where the arguments, and the package variables that the reading takes, are together of bulk at most 1048576: NARROWER than '..Said'. Prove '..Said' where nothing that the law and all that it calls make is longer than what came in: it says more and counts as full. Else prove '..UptoSaid'. A law counts once. -/
mutual
def uptoBulk {H : Type} : DataW H → Nat
  | .lit (.string bytes) => bytes.length + 1
  | .lit _ => 1
  | .nil => 1
  | .ptr d => uptoBulk d + 1
  | .slice elems spare => uptoBulkAll elems + uptoBulkAll spare + 1
  | .agg parts => uptoBulkAll parts + 1
  | .iface _ d => uptoBulk d + 1
  | .map entries => uptoBulkEntries entries + 1
  | .held _ => 1
def uptoBulkAll {H : Type} : List (DataW H) → Nat
  | [] => 0
  | d :: r => uptoBulk d + uptoBulkAll r
def uptoBulkEntries {H : Type} : List (Lit × DataW H) → Nat
  | [] => 0
  | x :: r => uptoBulkEntry x + uptoBulkEntries r
def uptoBulkEntry {H : Type} : Lit × DataW H → Nat
  | (.string bytes, d) => bytes.length + uptoBulk d + 1
  | (_, d) => uptoBulk d + 1
 end
def uptoSmall : (H : Type) → List (DataW H) → Bool := fun _ ds => decide (uptoBulkAll ds ≤ 1048576)
def OpenSpec.upto (s : _root_.Go.ChangeSpec) : _root_.Go.OpenSpec := { _root_.Go.OpenSpec.ofChange s with cond := some uptoSmall }

/-- 'wampumlaw02.SealStops', WHERE WHAT IT READS IS OF BULK AT MOST 1048576: true; the input reads as it did. -/
def sealStopsUptoRow : OpenClaim := { program := "ytbbfjcobjbopmaa", sum := "93fb7a8cb05b4745d1f49fbf1af178c437df3cac9e2daaf77440bbd0cbb02a6a", func := "wampum/wampumlaw02.SealStops", spec := "sealStops", unfollowed := true, recurses := true, apart := false, narrowed := true }
def SealStopsUptoSaid : Prop := sealStopsUptoRow.holds Try.pinned (OpenSpec.upto sealStopsSpec)

/-- 'wampumlaw01.PackPrefix', WHERE WHAT IT READS IS OF BULK AT MOST 1048576: true; the input reads as it did. -/
def packPrefixUptoRow : OpenClaim := { program := "ytbbfjcobjbopmaa", sum := "93fb7a8cb05b4745d1f49fbf1af178c437df3cac9e2daaf77440bbd0cbb02a6a", func := "wampum/wampumlaw01.PackPrefix", spec := "packPrefix", apart := false, narrowed := true }
def PackPrefixUptoSaid : Prop := packPrefixUptoRow.holds Try.pinned (OpenSpec.upto packPrefixSpec)

/-- 'wampumlaw02.SealTells', WHERE WHAT IT READS IS OF BULK AT MOST 1048576: true; the input reads as it did. -/
def sealTellsUptoRow : OpenClaim := { program := "ytbbfjcobjbopmaa", sum := "93fb7a8cb05b4745d1f49fbf1af178c437df3cac9e2daaf77440bbd0cbb02a6a", func := "wampum/wampumlaw02.SealTells", spec := "sealTells", unfollowed := true, recurses := true, apart := false, narrowed := true }
def SealTellsUptoSaid : Prop := sealTellsUptoRow.holds Try.pinned (OpenSpec.upto sealTellsSpec)

/-- 'wampumlaw02.SealBack', WHERE WHAT IT READS IS OF BULK AT MOST 1048576: true; the input reads as it did. -/
def sealBackUptoRow : OpenClaim := { program := "ytbbfjcobjbopmaa", sum := "93fb7a8cb05b4745d1f49fbf1af178c437df3cac9e2daaf77440bbd0cbb02a6a", func := "wampum/wampumlaw02.SealBack", spec := "sealBack", unfollowed := true, recurses := true, apart := false, narrowed := true }
def SealBackUptoSaid : Prop := sealBackUptoRow.holds Try.pinned (OpenSpec.upto sealBackSpec)

/-- 'wampumlaw02.SealTurned', WHERE WHAT IT READS IS OF BULK AT MOST 1048576: true; the input reads as it did. -/
def sealTurnedUptoRow : OpenClaim := { program := "ytbbfjcobjbopmaa", sum := "93fb7a8cb05b4745d1f49fbf1af178c437df3cac9e2daaf77440bbd0cbb02a6a", func := "wampum/wampumlaw02.SealTurned", spec := "sealTurned", unfollowed := true, recurses := true, apart := false, narrowed := true }
def SealTurnedUptoSaid : Prop := sealTurnedUptoRow.holds Try.pinned (OpenSpec.upto sealTurnedSpec)

/-- 'wampumlaw02.SealOwn', WHERE WHAT IT READS IS OF BULK AT MOST 1048576: true; the input reads as it did. -/
def sealOwnUptoRow : OpenClaim := { program := "ytbbfjcobjbopmaa", sum := "93fb7a8cb05b4745d1f49fbf1af178c437df3cac9e2daaf77440bbd0cbb02a6a", func := "wampum/wampumlaw02.SealOwn", spec := "sealOwn", unfollowed := true, recurses := true, apart := false, narrowed := true }
def SealOwnUptoSaid : Prop := sealOwnUptoRow.holds Try.pinned (OpenSpec.upto sealOwnSpec)

/-- 'wampumlaw01.PackWrites', WHERE WHAT IT READS IS OF BULK AT MOST 1048576: true; the input reads as it did. -/
def packWritesUptoRow : OpenClaim := { program := "ytbbfjcobjbopmaa", sum := "93fb7a8cb05b4745d1f49fbf1af178c437df3cac9e2daaf77440bbd0cbb02a6a", func := "wampum/wampumlaw01.PackWrites", spec := "packWrites", apart := false, narrowed := true }
def PackWritesUptoSaid : Prop := packWritesUptoRow.holds Try.pinned (OpenSpec.upto packWritesSpec)

/-- 'wampumlaw01.PackLengths', WHERE WHAT IT READS IS OF BULK AT MOST 1048576: true; the input reads as it did. -/
def packLengthsUptoRow : OpenClaim := { program := "ytbbfjcobjbopmaa", sum := "93fb7a8cb05b4745d1f49fbf1af178c437df3cac9e2daaf77440bbd0cbb02a6a", func := "wampum/wampumlaw01.PackLengths", spec := "packLengths", apart := false, narrowed := true }
def PackLengthsUptoSaid : Prop := packLengthsUptoRow.holds Try.pinned (OpenSpec.upto packLengthsSpec)

/-- 'wampumlaw01.PackReads', WHERE WHAT IT READS IS OF BULK AT MOST 1048576: true; the input reads as it did. -/
def packReadsUptoRow : OpenClaim := { program := "ytbbfjcobjbopmaa", sum := "93fb7a8cb05b4745d1f49fbf1af178c437df3cac9e2daaf77440bbd0cbb02a6a", func := "wampum/wampumlaw01.PackReads", spec := "packReads", apart := false, narrowed := true }
def PackReadsUptoSaid : Prop := packReadsUptoRow.holds Try.pinned (OpenSpec.upto packReadsSpec)

/-- 'wampumlaw01.PackNil', WHERE WHAT IT READS IS OF BULK AT MOST 1048576: true; the input reads as it did. -/
def packNilUptoRow : OpenClaim := { program := "ytbbfjcobjbopmaa", sum := "93fb7a8cb05b4745d1f49fbf1af178c437df3cac9e2daaf77440bbd0cbb02a6a", func := "wampum/wampumlaw01.PackNil", spec := "packNil", apart := false, narrowed := true }
def PackNilUptoSaid : Prop := packNilUptoRow.holds Try.pinned (OpenSpec.upto packNilSpec)

/-- 'wampumlaw01.PackBack', WHERE WHAT IT READS IS OF BULK AT MOST 1048576: true; the input reads as it did. -/
def packBackUptoRow : OpenClaim := { program := "ytbbfjcobjbopmaa", sum := "93fb7a8cb05b4745d1f49fbf1af178c437df3cac9e2daaf77440bbd0cbb02a6a", func := "wampum/wampumlaw01.PackBack", spec := "packBack", apart := false, narrowed := true }
def PackBackUptoSaid : Prop := packBackUptoRow.holds Try.pinned (OpenSpec.upto packBackSpec)

/-- 'wampumlaw01.PackOne', WHERE WHAT IT READS IS OF BULK AT MOST 1048576: true; the input reads as it did. -/
def packOneUptoRow : OpenClaim := { program := "ytbbfjcobjbopmaa", sum := "93fb7a8cb05b4745d1f49fbf1af178c437df3cac9e2daaf77440bbd0cbb02a6a", func := "wampum/wampumlaw01.PackOne", spec := "packOne", apart := false, narrowed := true }
def PackOneUptoSaid : Prop := packOneUptoRow.holds Try.pinned (OpenSpec.upto packOneSpec)

end Rows
end Go.Proofs.Ytbbfjcobjbopmaa
