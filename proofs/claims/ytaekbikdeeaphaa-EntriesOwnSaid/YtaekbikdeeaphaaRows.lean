/-
  No cell of these rows narrows 'for every input' (looked for: loops, veiled, ifaces, maps, wideKeys, modest, calm, conditions, laid).
  DERIVED. THE GIVEN ROWS OF THIS SEAT. 5 by the template 'for every input the law returns true; each argument reads behind the call as it read before'; 0 by the template 'total and deterministic' (their statements: YtaekbikdeeaphaaTotals.lean).
  GIVEN WITH THE SEED: the statements are not yours to turn. If you find one false, say at which input.
  Laid BY PROGRAM, IN A SANDBOX (cutbox-rows.mjs): the forced cells as the released guide's own fill.sh prints them over the translation 7abf4d079cf2070a… (all of the seat's roots in one cut). By AI agents, Wed Nov 11 2026. No macro, syntax, notation, axiom, sorry.
-/
import Derived.Test.YtaekbikdeeaphaaChecked
import GoSem.Claim
import GoSem.ClaimJoined
import GoSem.ClaimMapViews
import Derived.JoinedTies
import Derived.KernelRfl
namespace Go.Proofs.Ytaekbikdeeaphaa
/- THE CELL 'sum', in the pinned program and in every row, IS THE sha256 OF THE DUMP (.gsa) THAT YtaekbikdeeaphaaProg.lean LOADS. Nothing in Lean hashes anything: it is a label: what it is worth is what the hold of that sum in a sandbox is worth. -/
noncomputable def Try.pinned : Pinned := { name := "ytaekbikdeeaphaa", sum := "7abf4d079cf2070a39d29185f396501dbfb0974ffd61cc8a12f7856477c8fd2b", checked := Try.checked }
namespace Rows
def none {H : Type} : Left H := { results := [], args := [] }

/-- 'wampumlaw15.EntriesNewer': WHATEVER THE INPUT: true; the input reads as it did. -/
def entriesNewerSpec : ChangeSpec := { name := "entriesNewer", fn := fun _ => fun
  | [d1, d2] => { results := [.lit (.bool true)], args := [d1, d2] }
  | _ => none }
def entriesNewerRow : OpenClaim := { program := "ytaekbikdeeaphaa", sum := "7abf4d079cf2070a39d29185f396501dbfb0974ffd61cc8a12f7856477c8fd2b", func := "wampum/wampumlaw15.EntriesNewer", spec := "entriesNewer", unfollowed := true, recurses := true, apart := false }
def EntriesNewerSaid : Prop := entriesNewerRow.holds Try.pinned (OpenSpec.ofChange entriesNewerSpec)

/-- ITS FALSE NEIGHBOUR: 'it returns false'. Refute it at one input. -/
def entriesNewerWrong : ChangeSpec := { name := "entriesNewer", fn := fun _ => fun
  | [d1, d2] => { results := [.lit (.bool false)], args := [d1, d2] }
  | _ => none }
def EntriesNewerWrongFalsely : Prop := entriesNewerRow.holds Try.pinned (OpenSpec.ofChange entriesNewerWrong)

/-- 'wampumlaw15.EntriesSpliced': WHATEVER THE INPUT: true; the input reads as it did. -/
def entriesSplicedSpec : ChangeSpec := { name := "entriesSpliced", fn := fun _ => fun
  | [d1, d2, d3] => { results := [.lit (.bool true)], args := [d1, d2, d3] }
  | _ => none }
def entriesSplicedRow : OpenClaim := { program := "ytaekbikdeeaphaa", sum := "7abf4d079cf2070a39d29185f396501dbfb0974ffd61cc8a12f7856477c8fd2b", func := "wampum/wampumlaw15.EntriesSpliced", spec := "entriesSpliced", unfollowed := true, recurses := true, apart := false }
def EntriesSplicedSaid : Prop := entriesSplicedRow.holds Try.pinned (OpenSpec.ofChange entriesSplicedSpec)

/-- ITS FALSE NEIGHBOUR: 'it returns false'. Refute it at one input. -/
def entriesSplicedWrong : ChangeSpec := { name := "entriesSpliced", fn := fun _ => fun
  | [d1, d2, d3] => { results := [.lit (.bool false)], args := [d1, d2, d3] }
  | _ => none }
def EntriesSplicedWrongFalsely : Prop := entriesSplicedRow.holds Try.pinned (OpenSpec.ofChange entriesSplicedWrong)

/-- 'wampumlaw15.EntriesOwn': WHATEVER THE INPUT: true; the input reads as it did. -/
def entriesOwnSpec : ChangeSpec := { name := "entriesOwn", fn := fun _ => fun
  | [d1, d2] => { results := [.lit (.bool true)], args := [d1, d2] }
  | _ => none }
def entriesOwnRow : OpenClaim := { program := "ytaekbikdeeaphaa", sum := "7abf4d079cf2070a39d29185f396501dbfb0974ffd61cc8a12f7856477c8fd2b", func := "wampum/wampumlaw15.EntriesOwn", spec := "entriesOwn", unfollowed := true, recurses := true, apart := false }
def EntriesOwnSaid : Prop := entriesOwnRow.holds Try.pinned (OpenSpec.ofChange entriesOwnSpec)

/-- ITS FALSE NEIGHBOUR: 'it returns false'. Refute it at one input. -/
def entriesOwnWrong : ChangeSpec := { name := "entriesOwn", fn := fun _ => fun
  | [d1, d2] => { results := [.lit (.bool false)], args := [d1, d2] }
  | _ => none }
def EntriesOwnWrongFalsely : Prop := entriesOwnRow.holds Try.pinned (OpenSpec.ofChange entriesOwnWrong)

/-- 'wampumlaw15.EntriesCompacted': WHATEVER THE INPUT: true; the input reads as it did. -/
def entriesCompactedSpec : ChangeSpec := { name := "entriesCompacted", fn := fun _ => fun
  | [d1, d2, d3] => { results := [.lit (.bool true)], args := [d1, d2, d3] }
  | _ => none }
def entriesCompactedRow : OpenClaim := { program := "ytaekbikdeeaphaa", sum := "7abf4d079cf2070a39d29185f396501dbfb0974ffd61cc8a12f7856477c8fd2b", func := "wampum/wampumlaw15.EntriesCompacted", spec := "entriesCompacted", unfollowed := true, recurses := true, apart := false }
def EntriesCompactedSaid : Prop := entriesCompactedRow.holds Try.pinned (OpenSpec.ofChange entriesCompactedSpec)

/-- ITS FALSE NEIGHBOUR: 'it returns false'. Refute it at one input. -/
def entriesCompactedWrong : ChangeSpec := { name := "entriesCompacted", fn := fun _ => fun
  | [d1, d2, d3] => { results := [.lit (.bool false)], args := [d1, d2, d3] }
  | _ => none }
def EntriesCompactedWrongFalsely : Prop := entriesCompactedRow.holds Try.pinned (OpenSpec.ofChange entriesCompactedWrong)

/-- 'wampumlaw15.EntriesNil': WHATEVER THE INPUT: true; the input reads as it did. -/
def entriesNilSpec : ChangeSpec := { name := "entriesNil", fn := fun _ => fun
  | [d] => { results := [.lit (.bool true)], args := [d] }
  | _ => none }
def entriesNilRow : OpenClaim := { program := "ytaekbikdeeaphaa", sum := "7abf4d079cf2070a39d29185f396501dbfb0974ffd61cc8a12f7856477c8fd2b", func := "wampum/wampumlaw15.EntriesNil", spec := "entriesNil", unfollowed := true, recurses := true, apart := false }
def EntriesNilSaid : Prop := entriesNilRow.holds Try.pinned (OpenSpec.ofChange entriesNilSpec)

/-- ITS FALSE NEIGHBOUR: 'it returns false'. Refute it at one input. -/
def entriesNilWrong : ChangeSpec := { name := "entriesNil", fn := fun _ => fun
  | [d] => { results := [.lit (.bool false)], args := [d] }
  | _ => none }
def EntriesNilWrongFalsely : Prop := entriesNilRow.holds Try.pinned (OpenSpec.ofChange entriesNilWrong)

/- THE SECOND FORM. 'bulk': how many values and letters a reading holds, each counted each time it is reached (what is shared counts as often as it is met; a slice's spare places count too). A statement '..UptoSaid' is the law's where the arguments, and the package variables that the reading takes, are together of bulk at most 1048576: NARROWER than '..Said'. Prove '..Said' where nothing that the law and all that it calls make is longer than what came in: it says more and counts as full. Else prove '..UptoSaid'. A law counts once. -/
mutual
def uptoBulk {H : Type} : DataW H → Nat
  | .lit (.string bytes) => bytes.length + 1
  | .lit _ => 1
  | .nil => 1
  | .ptr d => uptoBulk d + 1
  | .slice elems spare => uptoBulkAll elems + uptoBulkAll spare + 1
  | .agg parts => uptoBulkAll parts + 1
  | .iface _ d => uptoBulk d + 1
  | .map entries => uptoBulkEntries entries + 1
  | .held _ => 1
def uptoBulkAll {H : Type} : List (DataW H) → Nat
  | [] => 0
  | d :: r => uptoBulk d + uptoBulkAll r
def uptoBulkEntries {H : Type} : List (Lit × DataW H) → Nat
  | [] => 0
  | x :: r => uptoBulkEntry x + uptoBulkEntries r
def uptoBulkEntry {H : Type} : Lit × DataW H → Nat
  | (.string bytes, d) => bytes.length + uptoBulk d + 1
  | (_, d) => uptoBulk d + 1
 end
def uptoSmall : (H : Type) → List (DataW H) → Bool := fun _ ds => decide (uptoBulkAll ds ≤ 1048576)
def OpenSpec.upto (s : _root_.Go.ChangeSpec) : _root_.Go.OpenSpec := { _root_.Go.OpenSpec.ofChange s with cond := some uptoSmall }

/-- 'wampumlaw15.EntriesNewer', WHERE WHAT IT READS IS OF BULK AT MOST 1048576: true; the input reads as it did. -/
def entriesNewerUptoRow : OpenClaim := { program := "ytaekbikdeeaphaa", sum := "7abf4d079cf2070a39d29185f396501dbfb0974ffd61cc8a12f7856477c8fd2b", func := "wampum/wampumlaw15.EntriesNewer", spec := "entriesNewer", unfollowed := true, recurses := true, apart := false, narrowed := true }
def EntriesNewerUptoSaid : Prop := entriesNewerUptoRow.holds Try.pinned (OpenSpec.upto entriesNewerSpec)

/-- 'wampumlaw15.EntriesSpliced', WHERE WHAT IT READS IS OF BULK AT MOST 1048576: true; the input reads as it did. -/
def entriesSplicedUptoRow : OpenClaim := { program := "ytaekbikdeeaphaa", sum := "7abf4d079cf2070a39d29185f396501dbfb0974ffd61cc8a12f7856477c8fd2b", func := "wampum/wampumlaw15.EntriesSpliced", spec := "entriesSpliced", unfollowed := true, recurses := true, apart := false, narrowed := true }
def EntriesSplicedUptoSaid : Prop := entriesSplicedUptoRow.holds Try.pinned (OpenSpec.upto entriesSplicedSpec)

/-- 'wampumlaw15.EntriesOwn', WHERE WHAT IT READS IS OF BULK AT MOST 1048576: true; the input reads as it did. -/
def entriesOwnUptoRow : OpenClaim := { program := "ytaekbikdeeaphaa", sum := "7abf4d079cf2070a39d29185f396501dbfb0974ffd61cc8a12f7856477c8fd2b", func := "wampum/wampumlaw15.EntriesOwn", spec := "entriesOwn", unfollowed := true, recurses := true, apart := false, narrowed := true }
def EntriesOwnUptoSaid : Prop := entriesOwnUptoRow.holds Try.pinned (OpenSpec.upto entriesOwnSpec)

/-- 'wampumlaw15.EntriesCompacted', WHERE WHAT IT READS IS OF BULK AT MOST 1048576: true; the input reads as it did. -/
def entriesCompactedUptoRow : OpenClaim := { program := "ytaekbikdeeaphaa", sum := "7abf4d079cf2070a39d29185f396501dbfb0974ffd61cc8a12f7856477c8fd2b", func := "wampum/wampumlaw15.EntriesCompacted", spec := "entriesCompacted", unfollowed := true, recurses := true, apart := false, narrowed := true }
def EntriesCompactedUptoSaid : Prop := entriesCompactedUptoRow.holds Try.pinned (OpenSpec.upto entriesCompactedSpec)

/-- 'wampumlaw15.EntriesNil', WHERE WHAT IT READS IS OF BULK AT MOST 1048576: true; the input reads as it did. -/
def entriesNilUptoRow : OpenClaim := { program := "ytaekbikdeeaphaa", sum := "7abf4d079cf2070a39d29185f396501dbfb0974ffd61cc8a12f7856477c8fd2b", func := "wampum/wampumlaw15.EntriesNil", spec := "entriesNil", unfollowed := true, recurses := true, apart := false, narrowed := true }
def EntriesNilUptoSaid : Prop := entriesNilUptoRow.holds Try.pinned (OpenSpec.upto entriesNilSpec)

end Rows
end Go.Proofs.Ytaekbikdeeaphaa
