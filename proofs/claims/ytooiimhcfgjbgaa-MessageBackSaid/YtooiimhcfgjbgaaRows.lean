/-
  No cell of these rows narrows 'for every input' (looked for: loops, veiled, ifaces, maps, wideKeys, modest, calm, conditions, laid).
  DERIVED. THE GIVEN ROWS OF THIS SEAT. 3 by the template 'for every input the law returns true; each argument reads behind the call as it read before'; 0 by the template 'total and deterministic' (their statements: YtooiimhcfgjbgaaTotals.lean).
  GIVEN WITH THE SEED: the statements are not yours to turn. If you find one false, say at which input.
  Laid BY PROGRAM, IN A SANDBOX (cutbox-rows.mjs): the forced cells as the released guide's own fill.sh prints them over the translation c3c5627d720e9d58… (all of the seat's roots in one cut). By AI agents, Wed Nov 11 2026. No macro, syntax, notation, axiom, sorry.
-/
import Derived.Test.YtooiimhcfgjbgaaChecked
import GoSem.Claim
import GoSem.ClaimJoined
import GoSem.ClaimMapViews
import Derived.JoinedTies
import Derived.KernelRfl
namespace Go.Proofs.Ytooiimhcfgjbgaa
/- THE CELL 'sum', in the pinned program and in every row, IS THE sha256 OF THE DUMP (.gsa) THAT YtooiimhcfgjbgaaProg.lean LOADS. Nothing in Lean hashes anything: it is a label: what it is worth is what the hold of that sum in a sandbox is worth. -/
noncomputable def Try.pinned : Pinned := { name := "ytooiimhcfgjbgaa", sum := "c3c5627d720e9d58c9c532b55008ddd463e20fd25244a7199eeddfdc28f023bf", checked := Try.checked }
namespace Rows
def none {H : Type} : Left H := { results := [], args := [] }

/-- 'wampumlaw18.MessageBack': WHATEVER THE INPUT: true; the input reads as it did. -/
def messageBackSpec : ChangeSpec := { name := "messageBack", fn := fun _ => fun
  | [d1, d2, d3] => { results := [.lit (.bool true)], args := [d1, d2, d3] }
  | _ => none }
def messageBackRow : OpenClaim := { program := "ytooiimhcfgjbgaa", sum := "c3c5627d720e9d58c9c532b55008ddd463e20fd25244a7199eeddfdc28f023bf", func := "wampum/wampumlaw18.MessageBack", spec := "messageBack", unfollowed := true, recurses := true, apart := false }
def MessageBackSaid : Prop := messageBackRow.holds Try.pinned (OpenSpec.ofChange messageBackSpec)

/-- ITS FALSE NEIGHBOUR: 'it returns false'. Refute it at one input. -/
def messageBackWrong : ChangeSpec := { name := "messageBack", fn := fun _ => fun
  | [d1, d2, d3] => { results := [.lit (.bool false)], args := [d1, d2, d3] }
  | _ => none }
def MessageBackWrongFalsely : Prop := messageBackRow.holds Try.pinned (OpenSpec.ofChange messageBackWrong)

/-- 'wampumlaw18.MessageApart': WHATEVER THE INPUT: true; the input reads as it did. -/
def messageApartSpec : ChangeSpec := { name := "messageApart", fn := fun _ => fun
  | [d1, d2] => { results := [.lit (.bool true)], args := [d1, d2] }
  | _ => none }
def messageApartRow : OpenClaim := { program := "ytooiimhcfgjbgaa", sum := "c3c5627d720e9d58c9c532b55008ddd463e20fd25244a7199eeddfdc28f023bf", func := "wampum/wampumlaw18.MessageApart", spec := "messageApart", unfollowed := true, recurses := true, apart := false }
def MessageApartSaid : Prop := messageApartRow.holds Try.pinned (OpenSpec.ofChange messageApartSpec)

/-- ITS FALSE NEIGHBOUR: 'it returns false'. Refute it at one input. -/
def messageApartWrong : ChangeSpec := { name := "messageApart", fn := fun _ => fun
  | [d1, d2] => { results := [.lit (.bool false)], args := [d1, d2] }
  | _ => none }
def MessageApartWrongFalsely : Prop := messageApartRow.holds Try.pinned (OpenSpec.ofChange messageApartWrong)

/-- 'wampumlaw18.MessageNeeds': WHATEVER THE INPUT: true; the input reads as it did. -/
def messageNeedsSpec : ChangeSpec := { name := "messageNeeds", fn := fun _ => fun
  | [d1, d2, d3] => { results := [.lit (.bool true)], args := [d1, d2, d3] }
  | _ => none }
def messageNeedsRow : OpenClaim := { program := "ytooiimhcfgjbgaa", sum := "c3c5627d720e9d58c9c532b55008ddd463e20fd25244a7199eeddfdc28f023bf", func := "wampum/wampumlaw18.MessageNeeds", spec := "messageNeeds", unfollowed := true, recurses := true, apart := false }
def MessageNeedsSaid : Prop := messageNeedsRow.holds Try.pinned (OpenSpec.ofChange messageNeedsSpec)

/-- ITS FALSE NEIGHBOUR: 'it returns false'. Refute it at one input. -/
def messageNeedsWrong : ChangeSpec := { name := "messageNeeds", fn := fun _ => fun
  | [d1, d2, d3] => { results := [.lit (.bool false)], args := [d1, d2, d3] }
  | _ => none }
def MessageNeedsWrongFalsely : Prop := messageNeedsRow.holds Try.pinned (OpenSpec.ofChange messageNeedsWrong)

/- THE SECOND FORM. 'bulk': how many values and letters a reading holds, each counted each time it is reached (what is shared counts as often as it is met; a slice's spare places count too). A statement '..UptoSaid' is the law's where the arguments, and the package variables that the reading takes, are together of bulk at most 1048576: NARROWER than '..Said'. Prove '..Said' where nothing that the law and all that it calls make is longer than what came in: it says more and counts as full. Else prove '..UptoSaid'. A law counts once. -/
mutual
def uptoBulk {H : Type} : DataW H → Nat
  | .lit (.string bytes) => bytes.length + 1
  | .lit _ => 1
  | .nil => 1
  | .ptr d => uptoBulk d + 1
  | .slice elems spare => uptoBulkAll elems + uptoBulkAll spare + 1
  | .agg parts => uptoBulkAll parts + 1
  | .iface _ d => uptoBulk d + 1
  | .map entries => uptoBulkEntries entries + 1
  | .held _ => 1
def uptoBulkAll {H : Type} : List (DataW H) → Nat
  | [] => 0
  | d :: r => uptoBulk d + uptoBulkAll r
def uptoBulkEntries {H : Type} : List (Lit × DataW H) → Nat
  | [] => 0
  | x :: r => uptoBulkEntry x + uptoBulkEntries r
def uptoBulkEntry {H : Type} : Lit × DataW H → Nat
  | (.string bytes, d) => bytes.length + uptoBulk d + 1
  | (_, d) => uptoBulk d + 1
 end
def uptoSmall : (H : Type) → List (DataW H) → Bool := fun _ ds => decide (uptoBulkAll ds ≤ 1048576)
def OpenSpec.upto (s : _root_.Go.ChangeSpec) : _root_.Go.OpenSpec := { _root_.Go.OpenSpec.ofChange s with cond := some uptoSmall }

/-- 'wampumlaw18.MessageBack', WHERE WHAT IT READS IS OF BULK AT MOST 1048576: true; the input reads as it did. -/
def messageBackUptoRow : OpenClaim := { program := "ytooiimhcfgjbgaa", sum := "c3c5627d720e9d58c9c532b55008ddd463e20fd25244a7199eeddfdc28f023bf", func := "wampum/wampumlaw18.MessageBack", spec := "messageBack", unfollowed := true, recurses := true, apart := false, narrowed := true }
def MessageBackUptoSaid : Prop := messageBackUptoRow.holds Try.pinned (OpenSpec.upto messageBackSpec)

/-- 'wampumlaw18.MessageApart', WHERE WHAT IT READS IS OF BULK AT MOST 1048576: true; the input reads as it did. -/
def messageApartUptoRow : OpenClaim := { program := "ytooiimhcfgjbgaa", sum := "c3c5627d720e9d58c9c532b55008ddd463e20fd25244a7199eeddfdc28f023bf", func := "wampum/wampumlaw18.MessageApart", spec := "messageApart", unfollowed := true, recurses := true, apart := false, narrowed := true }
def MessageApartUptoSaid : Prop := messageApartUptoRow.holds Try.pinned (OpenSpec.upto messageApartSpec)

/-- 'wampumlaw18.MessageNeeds', WHERE WHAT IT READS IS OF BULK AT MOST 1048576: true; the input reads as it did. -/
def messageNeedsUptoRow : OpenClaim := { program := "ytooiimhcfgjbgaa", sum := "c3c5627d720e9d58c9c532b55008ddd463e20fd25244a7199eeddfdc28f023bf", func := "wampum/wampumlaw18.MessageNeeds", spec := "messageNeeds", unfollowed := true, recurses := true, apart := false, narrowed := true }
def MessageNeedsUptoSaid : Prop := messageNeedsUptoRow.holds Try.pinned (OpenSpec.upto messageNeedsSpec)

end Rows
end Go.Proofs.Ytooiimhcfgjbgaa
