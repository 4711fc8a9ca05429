/-
  No cell of these rows narrows 'for every input' (looked for: loops, veiled, ifaces, maps, wideKeys, modest, calm, conditions, laid).
  DERIVED. THE GIVEN ROWS OF THIS SEAT. 5 by the template 'for every input the law returns true; each argument reads behind the call as it read before'; 0 by the template 'total and deterministic' (their statements: YthlgimhbdemfjaaTotals.lean).
  GIVEN WITH THE SEED: the statements are not yours to turn. If you find one false, say at which input.
  Laid BY PROGRAM, IN A SANDBOX (cutbox-rows.mjs): the forced cells as the released guide's own fill.sh prints them over the translation d5686583a57687a7… (all of the seat's roots in one cut). By AI agents, Wed Nov 11 2026. No macro, syntax, notation, axiom, sorry.
-/
import Derived.Test.YthlgimhbdemfjaaChecked
import GoSem.Claim
import GoSem.ClaimJoined
import GoSem.ClaimMapViews
import Derived.JoinedTies
import Derived.KernelRfl
namespace Go.Proofs.Ythlgimhbdemfjaa
/- THE CELL 'sum', in the pinned program and in every row, IS THE sha256 OF THE DUMP (.gsa) THAT YthlgimhbdemfjaaProg.lean LOADS. Nothing in Lean hashes anything: it is a label: what it is worth is what the hold of that sum in a sandbox is worth. -/
noncomputable def Try.pinned : Pinned := { name := "ythlgimhbdemfjaa", sum := "d5686583a57687a7b8406bc3dc9dbfc41fc9a5477a955954165220dd7f87d4cf", checked := Try.checked }
namespace Rows
def none {H : Type} : Left H := { results := [], args := [] }

/-- 'wampumlaw02.SealStops': WHATEVER THE INPUT: true; the input reads as it did. -/
def sealStopsSpec : ChangeSpec := { name := "sealStops", fn := fun _ => fun
  | [d1, d2, d3] => { results := [.lit (.bool true)], args := [d1, d2, d3] }
  | _ => none }
def sealStopsRow : OpenClaim := { program := "ythlgimhbdemfjaa", sum := "d5686583a57687a7b8406bc3dc9dbfc41fc9a5477a955954165220dd7f87d4cf", func := "wampum/wampumlaw02.SealStops", spec := "sealStops", unfollowed := true, recurses := true, apart := false }
def SealStopsSaid : Prop := sealStopsRow.holds Try.pinned (OpenSpec.ofChange sealStopsSpec)

/-- ITS FALSE NEIGHBOUR: 'it returns false'. Refute it at one input. -/
def sealStopsWrong : ChangeSpec := { name := "sealStops", fn := fun _ => fun
  | [d1, d2, d3] => { results := [.lit (.bool false)], args := [d1, d2, d3] }
  | _ => none }
def SealStopsWrongFalsely : Prop := sealStopsRow.holds Try.pinned (OpenSpec.ofChange sealStopsWrong)

/-- 'wampumlaw02.SealTells': WHATEVER THE INPUT: true; the input reads as it did. -/
def sealTellsSpec : ChangeSpec := { name := "sealTells", fn := fun _ => fun
  | [d] => { results := [.lit (.bool true)], args := [d] }
  | _ => none }
def sealTellsRow : OpenClaim := { program := "ythlgimhbdemfjaa", sum := "d5686583a57687a7b8406bc3dc9dbfc41fc9a5477a955954165220dd7f87d4cf", func := "wampum/wampumlaw02.SealTells", spec := "sealTells", unfollowed := true, recurses := true, apart := false }
def SealTellsSaid : Prop := sealTellsRow.holds Try.pinned (OpenSpec.ofChange sealTellsSpec)

/-- ITS FALSE NEIGHBOUR: 'it returns false'. Refute it at one input. -/
def sealTellsWrong : ChangeSpec := { name := "sealTells", fn := fun _ => fun
  | [d] => { results := [.lit (.bool false)], args := [d] }
  | _ => none }
def SealTellsWrongFalsely : Prop := sealTellsRow.holds Try.pinned (OpenSpec.ofChange sealTellsWrong)

/-- 'wampumlaw02.SealBack': WHATEVER THE INPUT: true; the input reads as it did. -/
def sealBackSpec : ChangeSpec := { name := "sealBack", fn := fun _ => fun
  | [d1, d2] => { results := [.lit (.bool true)], args := [d1, d2] }
  | _ => none }
def sealBackRow : OpenClaim := { program := "ythlgimhbdemfjaa", sum := "d5686583a57687a7b8406bc3dc9dbfc41fc9a5477a955954165220dd7f87d4cf", func := "wampum/wampumlaw02.SealBack", spec := "sealBack", unfollowed := true, recurses := true, apart := false }
def SealBackSaid : Prop := sealBackRow.holds Try.pinned (OpenSpec.ofChange sealBackSpec)

/-- ITS FALSE NEIGHBOUR: 'it returns false'. Refute it at one input. -/
def sealBackWrong : ChangeSpec := { name := "sealBack", fn := fun _ => fun
  | [d1, d2] => { results := [.lit (.bool false)], args := [d1, d2] }
  | _ => none }
def SealBackWrongFalsely : Prop := sealBackRow.holds Try.pinned (OpenSpec.ofChange sealBackWrong)

/-- 'wampumlaw02.SealTurned': WHATEVER THE INPUT: true; the input reads as it did. -/
def sealTurnedSpec : ChangeSpec := { name := "sealTurned", fn := fun _ => fun
  | [d1, d2, d3] => { results := [.lit (.bool true)], args := [d1, d2, d3] }
  | _ => none }
def sealTurnedRow : OpenClaim := { program := "ythlgimhbdemfjaa", sum := "d5686583a57687a7b8406bc3dc9dbfc41fc9a5477a955954165220dd7f87d4cf", func := "wampum/wampumlaw02.SealTurned", spec := "sealTurned", unfollowed := true, recurses := true, apart := false }
def SealTurnedSaid : Prop := sealTurnedRow.holds Try.pinned (OpenSpec.ofChange sealTurnedSpec)

/-- ITS FALSE NEIGHBOUR: 'it returns false'. Refute it at one input. -/
def sealTurnedWrong : ChangeSpec := { name := "sealTurned", fn := fun _ => fun
  | [d1, d2, d3] => { results := [.lit (.bool false)], args := [d1, d2, d3] }
  | _ => none }
def SealTurnedWrongFalsely : Prop := sealTurnedRow.holds Try.pinned (OpenSpec.ofChange sealTurnedWrong)

/-- 'wampumlaw02.SealOwn': WHATEVER THE INPUT: true; the input reads as it did. -/
def sealOwnSpec : ChangeSpec := { name := "sealOwn", fn := fun _ => fun
  | [d1, d2] => { results := [.lit (.bool true)], args := [d1, d2] }
  | _ => none }
def sealOwnRow : OpenClaim := { program := "ythlgimhbdemfjaa", sum := "d5686583a57687a7b8406bc3dc9dbfc41fc9a5477a955954165220dd7f87d4cf", func := "wampum/wampumlaw02.SealOwn", spec := "sealOwn", unfollowed := true, recurses := true, apart := false }
def SealOwnSaid : Prop := sealOwnRow.holds Try.pinned (OpenSpec.ofChange sealOwnSpec)

/-- ITS FALSE NEIGHBOUR: 'it returns false'. Refute it at one input. -/
def sealOwnWrong : ChangeSpec := { name := "sealOwn", fn := fun _ => fun
  | [d1, d2] => { results := [.lit (.bool false)], args := [d1, d2] }
  | _ => none }
def SealOwnWrongFalsely : Prop := sealOwnRow.holds Try.pinned (OpenSpec.ofChange sealOwnWrong)

/- THE SECOND FORM. 'bulk': how many values and letters a reading holds, each counted each time it is reached (what is shared counts as often as it is met; a slice's spare places count too). A statement '..UptoSaid' is the law's where the arguments, and the package variables that the reading takes, are together of bulk at most 1048576: NARROWER than '..Said'. Prove '..Said' where nothing that the law and all that it calls make is longer than what came in: it says more and counts as full. Else prove '..UptoSaid'. A law counts once. -/
mutual
def uptoBulk {H : Type} : DataW H → Nat
  | .lit (.string bytes) => bytes.length + 1
  | .lit _ => 1
  | .nil => 1
  | .ptr d => uptoBulk d + 1
  | .slice elems spare => uptoBulkAll elems + uptoBulkAll spare + 1
  | .agg parts => uptoBulkAll parts + 1
  | .iface _ d => uptoBulk d + 1
  | .map entries => uptoBulkEntries entries + 1
  | .held _ => 1
def uptoBulkAll {H : Type} : List (DataW H) → Nat
  | [] => 0
  | d :: r => uptoBulk d + uptoBulkAll r
def uptoBulkEntries {H : Type} : List (Lit × DataW H) → Nat
  | [] => 0
  | x :: r => uptoBulkEntry x + uptoBulkEntries r
def uptoBulkEntry {H : Type} : Lit × DataW H → Nat
  | (.string bytes, d) => bytes.length + uptoBulk d + 1
  | (_, d) => uptoBulk d + 1
 end
def uptoSmall : (H : Type) → List (DataW H) → Bool := fun _ ds => decide (uptoBulkAll ds ≤ 1048576)
def OpenSpec.upto (s : _root_.Go.ChangeSpec) : _root_.Go.OpenSpec := { _root_.Go.OpenSpec.ofChange s with cond := some uptoSmall }

/-- 'wampumlaw02.SealStops', WHERE WHAT IT READS IS OF BULK AT MOST 1048576: true; the input reads as it did. -/
def sealStopsUptoRow : OpenClaim := { program := "ythlgimhbdemfjaa", sum := "d5686583a57687a7b8406bc3dc9dbfc41fc9a5477a955954165220dd7f87d4cf", func := "wampum/wampumlaw02.SealStops", spec := "sealStops", unfollowed := true, recurses := true, apart := false, narrowed := true }
def SealStopsUptoSaid : Prop := sealStopsUptoRow.holds Try.pinned (OpenSpec.upto sealStopsSpec)

/-- 'wampumlaw02.SealTells', WHERE WHAT IT READS IS OF BULK AT MOST 1048576: true; the input reads as it did. -/
def sealTellsUptoRow : OpenClaim := { program := "ythlgimhbdemfjaa", sum := "d5686583a57687a7b8406bc3dc9dbfc41fc9a5477a955954165220dd7f87d4cf", func := "wampum/wampumlaw02.SealTells", spec := "sealTells", unfollowed := true, recurses := true, apart := false, narrowed := true }
def SealTellsUptoSaid : Prop := sealTellsUptoRow.holds Try.pinned (OpenSpec.upto sealTellsSpec)

/-- 'wampumlaw02.SealBack', WHERE WHAT IT READS IS OF BULK AT MOST 1048576: true; the input reads as it did. -/
def sealBackUptoRow : OpenClaim := { program := "ythlgimhbdemfjaa", sum := "d5686583a57687a7b8406bc3dc9dbfc41fc9a5477a955954165220dd7f87d4cf", func := "wampum/wampumlaw02.SealBack", spec := "sealBack", unfollowed := true, recurses := true, apart := false, narrowed := true }
def SealBackUptoSaid : Prop := sealBackUptoRow.holds Try.pinned (OpenSpec.upto sealBackSpec)

/-- 'wampumlaw02.SealTurned', WHERE WHAT IT READS IS OF BULK AT MOST 1048576: true; the input reads as it did. -/
def sealTurnedUptoRow : OpenClaim := { program := "ythlgimhbdemfjaa", sum := "d5686583a57687a7b8406bc3dc9dbfc41fc9a5477a955954165220dd7f87d4cf", func := "wampum/wampumlaw02.SealTurned", spec := "sealTurned", unfollowed := true, recurses := true, apart := false, narrowed := true }
def SealTurnedUptoSaid : Prop := sealTurnedUptoRow.holds Try.pinned (OpenSpec.upto sealTurnedSpec)

/-- 'wampumlaw02.SealOwn', WHERE WHAT IT READS IS OF BULK AT MOST 1048576: true; the input reads as it did. -/
def sealOwnUptoRow : OpenClaim := { program := "ythlgimhbdemfjaa", sum := "d5686583a57687a7b8406bc3dc9dbfc41fc9a5477a955954165220dd7f87d4cf", func := "wampum/wampumlaw02.SealOwn", spec := "sealOwn", unfollowed := true, recurses := true, apart := false, narrowed := true }
def SealOwnUptoSaid : Prop := sealOwnUptoRow.holds Try.pinned (OpenSpec.upto sealOwnSpec)

end Rows
end Go.Proofs.Ythlgimhbdemfjaa
