/-
  No cell of these rows narrows 'for every input' (looked for: loops, veiled, ifaces, maps, wideKeys, modest, calm, conditions, laid).
  DERIVED. THE GIVEN ROWS OF THIS SEAT. 6 by the template 'for every input the law returns true; each argument reads behind the call as it read before'; 0 by the template 'total and deterministic' (their statements: YtnbijpijbhkcpaaTotals.lean).
  GIVEN WITH THE SEED: the statements are not yours to turn. If you find one false, say at which input.
  Laid BY PROGRAM, IN A SANDBOX (cutbox-rows.mjs): the forced cells as the released guide's own fill.sh prints them over the translation 173d678e2296be1d… (all of the seat's roots in one cut). By AI agents, Wed Nov 11 2026. No macro, syntax, notation, axiom, sorry.
-/
import Derived.Test.YtnbijpijbhkcpaaChecked
import GoSem.Claim
import GoSem.ClaimJoined
import GoSem.ClaimMapViews
import Derived.JoinedTies
import Derived.KernelRfl
namespace Go.Proofs.Ytnbijpijbhkcpaa
/- THE CELL 'sum', in the pinned program and in every row, IS THE sha256 OF THE DUMP (.gsa) THAT YtnbijpijbhkcpaaProg.lean LOADS. Nothing in Lean hashes anything: it is a label: what it is worth is what the hold of that sum in a sandbox is worth. -/
noncomputable def Try.pinned : Pinned := { name := "ytnbijpijbhkcpaa", sum := "173d678e2296be1d2e26e49607bf1b32bfea4b8404f3a4d27f5ae55831e8a0fa", checked := Try.checked }
namespace Rows
def none {H : Type} : Left H := { results := [], args := [] }

/-- 'wampumlaw07.JournalOpens': WHATEVER THE INPUT: true; the input reads as it did. -/
def journalOpensSpec : ChangeSpec := { name := "journalOpens", fn := fun _ => fun
  | [d1, d2] => { results := [.lit (.bool true)], args := [d1, d2] }
  | _ => none }
def journalOpensRow : OpenClaim := { program := "ytnbijpijbhkcpaa", sum := "173d678e2296be1d2e26e49607bf1b32bfea4b8404f3a4d27f5ae55831e8a0fa", func := "wampum/wampumlaw07.JournalOpens", spec := "journalOpens", unfollowed := true, recurses := true, apart := false }
def JournalOpensSaid : Prop := journalOpensRow.holds Try.pinned (OpenSpec.ofChange journalOpensSpec)

/-- ITS FALSE NEIGHBOUR: 'it returns false'. Refute it at one input. -/
def journalOpensWrong : ChangeSpec := { name := "journalOpens", fn := fun _ => fun
  | [d1, d2] => { results := [.lit (.bool false)], args := [d1, d2] }
  | _ => none }
def JournalOpensWrongFalsely : Prop := journalOpensRow.holds Try.pinned (OpenSpec.ofChange journalOpensWrong)

/-- 'wampumlaw07.JournalPlays': WHATEVER THE INPUT: true; the input reads as it did. -/
def journalPlaysSpec : ChangeSpec := { name := "journalPlays", fn := fun _ => fun
  | [d] => { results := [.lit (.bool true)], args := [d] }
  | _ => none }
def journalPlaysRow : OpenClaim := { program := "ytnbijpijbhkcpaa", sum := "173d678e2296be1d2e26e49607bf1b32bfea4b8404f3a4d27f5ae55831e8a0fa", func := "wampum/wampumlaw07.JournalPlays", spec := "journalPlays", unfollowed := true, recurses := true, apart := false }
def JournalPlaysSaid : Prop := journalPlaysRow.holds Try.pinned (OpenSpec.ofChange journalPlaysSpec)

/-- ITS FALSE NEIGHBOUR: 'it returns false'. Refute it at one input. -/
def journalPlaysWrong : ChangeSpec := { name := "journalPlays", fn := fun _ => fun
  | [d] => { results := [.lit (.bool false)], args := [d] }
  | _ => none }
def JournalPlaysWrongFalsely : Prop := journalPlaysRow.holds Try.pinned (OpenSpec.ofChange journalPlaysWrong)

/-- 'wampumlaw07.JournalOutlives': WHATEVER THE INPUT: true; the input reads as it did. -/
def journalOutlivesSpec : ChangeSpec := { name := "journalOutlives", fn := fun _ => fun
  | [d1, d2, d3] => { results := [.lit (.bool true)], args := [d1, d2, d3] }
  | _ => none }
def journalOutlivesRow : OpenClaim := { program := "ytnbijpijbhkcpaa", sum := "173d678e2296be1d2e26e49607bf1b32bfea4b8404f3a4d27f5ae55831e8a0fa", func := "wampum/wampumlaw07.JournalOutlives", spec := "journalOutlives", unfollowed := true, recurses := true, apart := false }
def JournalOutlivesSaid : Prop := journalOutlivesRow.holds Try.pinned (OpenSpec.ofChange journalOutlivesSpec)

/-- ITS FALSE NEIGHBOUR: 'it returns false'. Refute it at one input. -/
def journalOutlivesWrong : ChangeSpec := { name := "journalOutlives", fn := fun _ => fun
  | [d1, d2, d3] => { results := [.lit (.bool false)], args := [d1, d2, d3] }
  | _ => none }
def JournalOutlivesWrongFalsely : Prop := journalOutlivesRow.holds Try.pinned (OpenSpec.ofChange journalOutlivesWrong)

/-- 'wampumlaw07.JournalNil': WHATEVER THE INPUT: true; the input reads as it did. -/
def journalNilSpec : ChangeSpec := { name := "journalNil", fn := fun _ => fun
  | [d] => { results := [.lit (.bool true)], args := [d] }
  | _ => none }
def journalNilRow : OpenClaim := { program := "ytnbijpijbhkcpaa", sum := "173d678e2296be1d2e26e49607bf1b32bfea4b8404f3a4d27f5ae55831e8a0fa", func := "wampum/wampumlaw07.JournalNil", spec := "journalNil", unfollowed := true, recurses := true, apart := false }
def JournalNilSaid : Prop := journalNilRow.holds Try.pinned (OpenSpec.ofChange journalNilSpec)

/-- ITS FALSE NEIGHBOUR: 'it returns false'. Refute it at one input. -/
def journalNilWrong : ChangeSpec := { name := "journalNil", fn := fun _ => fun
  | [d] => { results := [.lit (.bool false)], args := [d] }
  | _ => none }
def JournalNilWrongFalsely : Prop := journalNilRow.holds Try.pinned (OpenSpec.ofChange journalNilWrong)

/-- 'wampumlaw07.JournalIndex': WHATEVER THE INPUT: true; the input reads as it did. -/
def journalIndexSpec : ChangeSpec := { name := "journalIndex", fn := fun _ => fun
  | [d1, d2, d3] => { results := [.lit (.bool true)], args := [d1, d2, d3] }
  | _ => none }
def journalIndexRow : OpenClaim := { program := "ytnbijpijbhkcpaa", sum := "173d678e2296be1d2e26e49607bf1b32bfea4b8404f3a4d27f5ae55831e8a0fa", func := "wampum/wampumlaw07.JournalIndex", spec := "journalIndex", unfollowed := true, recurses := true, apart := false }
def JournalIndexSaid : Prop := journalIndexRow.holds Try.pinned (OpenSpec.ofChange journalIndexSpec)

/-- ITS FALSE NEIGHBOUR: 'it returns false'. Refute it at one input. -/
def journalIndexWrong : ChangeSpec := { name := "journalIndex", fn := fun _ => fun
  | [d1, d2, d3] => { results := [.lit (.bool false)], args := [d1, d2, d3] }
  | _ => none }
def JournalIndexWrongFalsely : Prop := journalIndexRow.holds Try.pinned (OpenSpec.ofChange journalIndexWrong)

/-- 'wampumlaw07.JournalAgain': WHATEVER THE INPUT: true; the input reads as it did. -/
def journalAgainSpec : ChangeSpec := { name := "journalAgain", fn := fun _ => fun
  | [d] => { results := [.lit (.bool true)], args := [d] }
  | _ => none }
def journalAgainRow : OpenClaim := { program := "ytnbijpijbhkcpaa", sum := "173d678e2296be1d2e26e49607bf1b32bfea4b8404f3a4d27f5ae55831e8a0fa", func := "wampum/wampumlaw07.JournalAgain", spec := "journalAgain", unfollowed := true, recurses := true, apart := false }
def JournalAgainSaid : Prop := journalAgainRow.holds Try.pinned (OpenSpec.ofChange journalAgainSpec)

/-- ITS FALSE NEIGHBOUR: 'it returns false'. Refute it at one input. -/
def journalAgainWrong : ChangeSpec := { name := "journalAgain", fn := fun _ => fun
  | [d] => { results := [.lit (.bool false)], args := [d] }
  | _ => none }
def JournalAgainWrongFalsely : Prop := journalAgainRow.holds Try.pinned (OpenSpec.ofChange journalAgainWrong)

/- THE SECOND FORM. 'bulk': how many values and letters a reading holds, each counted each time it is reached (what is shared counts as often as it is met; a slice's spare places count too). A statement '..UptoSaid' is the law's where the arguments, and the package variables that the reading takes, are together of bulk at most 1048576: NARROWER than '..Said'. Prove '..Said' where nothing that the law and all that it calls make is longer than what came in: it says more and counts as full. Else prove '..UptoSaid'. A law counts once. -/
mutual
def uptoBulk {H : Type} : DataW H → Nat
  | .lit (.string bytes) => bytes.length + 1
  | .lit _ => 1
  | .nil => 1
  | .ptr d => uptoBulk d + 1
  | .slice elems spare => uptoBulkAll elems + uptoBulkAll spare + 1
  | .agg parts => uptoBulkAll parts + 1
  | .iface _ d => uptoBulk d + 1
  | .map entries => uptoBulkEntries entries + 1
  | .held _ => 1
def uptoBulkAll {H : Type} : List (DataW H) → Nat
  | [] => 0
  | d :: r => uptoBulk d + uptoBulkAll r
def uptoBulkEntries {H : Type} : List (Lit × DataW H) → Nat
  | [] => 0
  | x :: r => uptoBulkEntry x + uptoBulkEntries r
def uptoBulkEntry {H : Type} : Lit × DataW H → Nat
  | (.string bytes, d) => bytes.length + uptoBulk d + 1
  | (_, d) => uptoBulk d + 1
 end
def uptoSmall : (H : Type) → List (DataW H) → Bool := fun _ ds => decide (uptoBulkAll ds ≤ 1048576)
def OpenSpec.upto (s : _root_.Go.ChangeSpec) : _root_.Go.OpenSpec := { _root_.Go.OpenSpec.ofChange s with cond := some uptoSmall }

/-- 'wampumlaw07.JournalOpens', WHERE WHAT IT READS IS OF BULK AT MOST 1048576: true; the input reads as it did. -/
def journalOpensUptoRow : OpenClaim := { program := "ytnbijpijbhkcpaa", sum := "173d678e2296be1d2e26e49607bf1b32bfea4b8404f3a4d27f5ae55831e8a0fa", func := "wampum/wampumlaw07.JournalOpens", spec := "journalOpens", unfollowed := true, recurses := true, apart := false, narrowed := true }
def JournalOpensUptoSaid : Prop := journalOpensUptoRow.holds Try.pinned (OpenSpec.upto journalOpensSpec)

/-- 'wampumlaw07.JournalPlays', WHERE WHAT IT READS IS OF BULK AT MOST 1048576: true; the input reads as it did. -/
def journalPlaysUptoRow : OpenClaim := { program := "ytnbijpijbhkcpaa", sum := "173d678e2296be1d2e26e49607bf1b32bfea4b8404f3a4d27f5ae55831e8a0fa", func := "wampum/wampumlaw07.JournalPlays", spec := "journalPlays", unfollowed := true, recurses := true, apart := false, narrowed := true }
def JournalPlaysUptoSaid : Prop := journalPlaysUptoRow.holds Try.pinned (OpenSpec.upto journalPlaysSpec)

/-- 'wampumlaw07.JournalOutlives', WHERE WHAT IT READS IS OF BULK AT MOST 1048576: true; the input reads as it did. -/
def journalOutlivesUptoRow : OpenClaim := { program := "ytnbijpijbhkcpaa", sum := "173d678e2296be1d2e26e49607bf1b32bfea4b8404f3a4d27f5ae55831e8a0fa", func := "wampum/wampumlaw07.JournalOutlives", spec := "journalOutlives", unfollowed := true, recurses := true, apart := false, narrowed := true }
def JournalOutlivesUptoSaid : Prop := journalOutlivesUptoRow.holds Try.pinned (OpenSpec.upto journalOutlivesSpec)

/-- 'wampumlaw07.JournalNil', WHERE WHAT IT READS IS OF BULK AT MOST 1048576: true; the input reads as it did. -/
def journalNilUptoRow : OpenClaim := { program := "ytnbijpijbhkcpaa", sum := "173d678e2296be1d2e26e49607bf1b32bfea4b8404f3a4d27f5ae55831e8a0fa", func := "wampum/wampumlaw07.JournalNil", spec := "journalNil", unfollowed := true, recurses := true, apart := false, narrowed := true }
def JournalNilUptoSaid : Prop := journalNilUptoRow.holds Try.pinned (OpenSpec.upto journalNilSpec)

/-- 'wampumlaw07.JournalIndex', WHERE WHAT IT READS IS OF BULK AT MOST 1048576: true; the input reads as it did. -/
def journalIndexUptoRow : OpenClaim := { program := "ytnbijpijbhkcpaa", sum := "173d678e2296be1d2e26e49607bf1b32bfea4b8404f3a4d27f5ae55831e8a0fa", func := "wampum/wampumlaw07.JournalIndex", spec := "journalIndex", unfollowed := true, recurses := true, apart := false, narrowed := true }
def JournalIndexUptoSaid : Prop := journalIndexUptoRow.holds Try.pinned (OpenSpec.upto journalIndexSpec)

/-- 'wampumlaw07.JournalAgain', WHERE WHAT IT READS IS OF BULK AT MOST 1048576: true; the input reads as it did. -/
def journalAgainUptoRow : OpenClaim := { program := "ytnbijpijbhkcpaa", sum := "173d678e2296be1d2e26e49607bf1b32bfea4b8404f3a4d27f5ae55831e8a0fa", func := "wampum/wampumlaw07.JournalAgain", spec := "journalAgain", unfollowed := true, recurses := true, apart := false, narrowed := true }
def JournalAgainUptoSaid : Prop := journalAgainUptoRow.holds Try.pinned (OpenSpec.upto journalAgainSpec)

end Rows
end Go.Proofs.Ytnbijpijbhkcpaa
