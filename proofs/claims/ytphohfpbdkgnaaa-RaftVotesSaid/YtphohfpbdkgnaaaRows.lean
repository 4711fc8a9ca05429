/-
  No cell of these rows narrows 'for every input' (looked for: loops, veiled, ifaces, maps, wideKeys, modest, calm, conditions, laid).
  DERIVED. THE GIVEN ROWS OF THIS SEAT. 4 by the template 'for every input the law returns true; each argument reads behind the call as it read before'; 0 by the template 'total and deterministic' (their statements: YtphohfpbdkgnaaaTotals.lean).
  GIVEN WITH THE SEED: the statements are not yours to turn. If you find one false, say at which input.
  Laid BY PROGRAM, IN A SANDBOX (cutbox-rows.mjs): the forced cells as the released guide's own fill.sh prints them over the translation c3c8ef4e24b49d87… (all of the seat's roots in one cut). By AI agents, Wed Nov 11 2026. No macro, syntax, notation, axiom, sorry.
-/
import Derived.Test.YtphohfpbdkgnaaaChecked
import GoSem.Claim
import GoSem.ClaimJoined
import GoSem.ClaimMapViews
import Derived.JoinedTies
import Derived.KernelRfl
namespace Go.Proofs.Ytphohfpbdkgnaaa
/- THE CELL 'sum', in the pinned program and in every row, IS THE sha256 OF THE DUMP (.gsa) THAT YtphohfpbdkgnaaaProg.lean LOADS. Nothing in Lean hashes anything: it is a label: what it is worth is what the hold of that sum in a sandbox is worth. -/
noncomputable def Try.pinned : Pinned := { name := "ytphohfpbdkgnaaa", sum := "c3c8ef4e24b49d87aa15e52be7be6a44cd5546685e4eea5b052b7825ea82cdcd", checked := Try.checked }
namespace Rows
def none {H : Type} : Left H := { results := [], args := [] }

/-- 'wampumlaw16.RaftVotes': WHATEVER THE INPUT: true; the input reads as it did. -/
def raftVotesSpec : ChangeSpec := { name := "raftVotes", fn := fun _ => fun
  | [d1, d2] => { results := [.lit (.bool true)], args := [d1, d2] }
  | _ => none }
def raftVotesRow : OpenClaim := { program := "ytphohfpbdkgnaaa", sum := "c3c8ef4e24b49d87aa15e52be7be6a44cd5546685e4eea5b052b7825ea82cdcd", func := "wampum/wampumlaw16.RaftVotes", spec := "raftVotes", unfollowed := true, recurses := true, apart := false }
def RaftVotesSaid : Prop := raftVotesRow.holds Try.pinned (OpenSpec.ofChange raftVotesSpec)

/-- ITS FALSE NEIGHBOUR: 'it returns false'. Refute it at one input. -/
def raftVotesWrong : ChangeSpec := { name := "raftVotes", fn := fun _ => fun
  | [d1, d2] => { results := [.lit (.bool false)], args := [d1, d2] }
  | _ => none }
def RaftVotesWrongFalsely : Prop := raftVotesRow.holds Try.pinned (OpenSpec.ofChange raftVotesWrong)

/-- 'wampumlaw16.RaftSafe': WHATEVER THE INPUT: true; the input reads as it did. -/
def raftSafeSpec : ChangeSpec := { name := "raftSafe", fn := fun _ => fun
  | [d] => { results := [.lit (.bool true)], args := [d] }
  | _ => none }
def raftSafeRow : OpenClaim := { program := "ytphohfpbdkgnaaa", sum := "c3c8ef4e24b49d87aa15e52be7be6a44cd5546685e4eea5b052b7825ea82cdcd", func := "wampum/wampumlaw16.RaftSafe", spec := "raftSafe", unfollowed := true, recurses := true, apart := false }
def RaftSafeSaid : Prop := raftSafeRow.holds Try.pinned (OpenSpec.ofChange raftSafeSpec)

/-- ITS FALSE NEIGHBOUR: 'it returns false'. Refute it at one input. -/
def raftSafeWrong : ChangeSpec := { name := "raftSafe", fn := fun _ => fun
  | [d] => { results := [.lit (.bool false)], args := [d] }
  | _ => none }
def RaftSafeWrongFalsely : Prop := raftSafeRow.holds Try.pinned (OpenSpec.ofChange raftSafeWrong)

/-- 'wampumlaw16.RaftLives': WHATEVER THE INPUT: true; the input reads as it did. -/
def raftLivesSpec : ChangeSpec := { name := "raftLives", fn := fun _ => fun
  | [d1, d2, d3] => { results := [.lit (.bool true)], args := [d1, d2, d3] }
  | _ => none }
def raftLivesRow : OpenClaim := { program := "ytphohfpbdkgnaaa", sum := "c3c8ef4e24b49d87aa15e52be7be6a44cd5546685e4eea5b052b7825ea82cdcd", func := "wampum/wampumlaw16.RaftLives", spec := "raftLives", unfollowed := true, recurses := true, apart := false }
def RaftLivesSaid : Prop := raftLivesRow.holds Try.pinned (OpenSpec.ofChange raftLivesSpec)

/-- ITS FALSE NEIGHBOUR: 'it returns false'. Refute it at one input. -/
def raftLivesWrong : ChangeSpec := { name := "raftLives", fn := fun _ => fun
  | [d1, d2, d3] => { results := [.lit (.bool false)], args := [d1, d2, d3] }
  | _ => none }
def RaftLivesWrongFalsely : Prop := raftLivesRow.holds Try.pinned (OpenSpec.ofChange raftLivesWrong)

/-- 'wampumlaw16.RaftNil': WHATEVER THE INPUT: true; the input reads as it did. -/
def raftNilSpec : ChangeSpec := { name := "raftNil", fn := fun _ => fun
  | [d] => { results := [.lit (.bool true)], args := [d] }
  | _ => none }
def raftNilRow : OpenClaim := { program := "ytphohfpbdkgnaaa", sum := "c3c8ef4e24b49d87aa15e52be7be6a44cd5546685e4eea5b052b7825ea82cdcd", func := "wampum/wampumlaw16.RaftNil", spec := "raftNil", unfollowed := true, recurses := true, apart := false }
def RaftNilSaid : Prop := raftNilRow.holds Try.pinned (OpenSpec.ofChange raftNilSpec)

/-- ITS FALSE NEIGHBOUR: 'it returns false'. Refute it at one input. -/
def raftNilWrong : ChangeSpec := { name := "raftNil", fn := fun _ => fun
  | [d] => { results := [.lit (.bool false)], args := [d] }
  | _ => none }
def RaftNilWrongFalsely : Prop := raftNilRow.holds Try.pinned (OpenSpec.ofChange raftNilWrong)

/- THE SECOND FORM. 'bulk': how many values and letters a reading holds, each counted each time it is reached (what is shared counts as often as it is met; a slice's spare places count too). A statement '..UptoSaid' is the law's where the arguments, and the package variables that the reading takes, are together of bulk at most 1048576: NARROWER than '..Said'. Prove '..Said' where nothing that the law and all that it calls make is longer than what came in: it says more and counts as full. Else prove '..UptoSaid'. A law counts once. -/
mutual
def uptoBulk {H : Type} : DataW H → Nat
  | .lit (.string bytes) => bytes.length + 1
  | .lit _ => 1
  | .nil => 1
  | .ptr d => uptoBulk d + 1
  | .slice elems spare => uptoBulkAll elems + uptoBulkAll spare + 1
  | .agg parts => uptoBulkAll parts + 1
  | .iface _ d => uptoBulk d + 1
  | .map entries => uptoBulkEntries entries + 1
  | .held _ => 1
def uptoBulkAll {H : Type} : List (DataW H) → Nat
  | [] => 0
  | d :: r => uptoBulk d + uptoBulkAll r
def uptoBulkEntries {H : Type} : List (Lit × DataW H) → Nat
  | [] => 0
  | x :: r => uptoBulkEntry x + uptoBulkEntries r
def uptoBulkEntry {H : Type} : Lit × DataW H → Nat
  | (.string bytes, d) => bytes.length + uptoBulk d + 1
  | (_, d) => uptoBulk d + 1
 end
def uptoSmall : (H : Type) → List (DataW H) → Bool := fun _ ds => decide (uptoBulkAll ds ≤ 1048576)
def OpenSpec.upto (s : _root_.Go.ChangeSpec) : _root_.Go.OpenSpec := { _root_.Go.OpenSpec.ofChange s with cond := some uptoSmall }

/-- 'wampumlaw16.RaftVotes', WHERE WHAT IT READS IS OF BULK AT MOST 1048576: true; the input reads as it did. -/
def raftVotesUptoRow : OpenClaim := { program := "ytphohfpbdkgnaaa", sum := "c3c8ef4e24b49d87aa15e52be7be6a44cd5546685e4eea5b052b7825ea82cdcd", func := "wampum/wampumlaw16.RaftVotes", spec := "raftVotes", unfollowed := true, recurses := true, apart := false, narrowed := true }
def RaftVotesUptoSaid : Prop := raftVotesUptoRow.holds Try.pinned (OpenSpec.upto raftVotesSpec)

/-- 'wampumlaw16.RaftSafe', WHERE WHAT IT READS IS OF BULK AT MOST 1048576: true; the input reads as it did. -/
def raftSafeUptoRow : OpenClaim := { program := "ytphohfpbdkgnaaa", sum := "c3c8ef4e24b49d87aa15e52be7be6a44cd5546685e4eea5b052b7825ea82cdcd", func := "wampum/wampumlaw16.RaftSafe", spec := "raftSafe", unfollowed := true, recurses := true, apart := false, narrowed := true }
def RaftSafeUptoSaid : Prop := raftSafeUptoRow.holds Try.pinned (OpenSpec.upto raftSafeSpec)

/-- 'wampumlaw16.RaftLives', WHERE WHAT IT READS IS OF BULK AT MOST 1048576: true; the input reads as it did. -/
def raftLivesUptoRow : OpenClaim := { program := "ytphohfpbdkgnaaa", sum := "c3c8ef4e24b49d87aa15e52be7be6a44cd5546685e4eea5b052b7825ea82cdcd", func := "wampum/wampumlaw16.RaftLives", spec := "raftLives", unfollowed := true, recurses := true, apart := false, narrowed := true }
def RaftLivesUptoSaid : Prop := raftLivesUptoRow.holds Try.pinned (OpenSpec.upto raftLivesSpec)

/-- 'wampumlaw16.RaftNil', WHERE WHAT IT READS IS OF BULK AT MOST 1048576: true; the input reads as it did. -/
def raftNilUptoRow : OpenClaim := { program := "ytphohfpbdkgnaaa", sum := "c3c8ef4e24b49d87aa15e52be7be6a44cd5546685e4eea5b052b7825ea82cdcd", func := "wampum/wampumlaw16.RaftNil", spec := "raftNil", unfollowed := true, recurses := true, apart := false, narrowed := true }
def RaftNilUptoSaid : Prop := raftNilUptoRow.holds Try.pinned (OpenSpec.upto raftNilSpec)

end Rows
end Go.Proofs.Ytphohfpbdkgnaaa
