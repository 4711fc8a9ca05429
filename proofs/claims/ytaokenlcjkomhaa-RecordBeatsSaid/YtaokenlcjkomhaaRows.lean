/-
  No cell of these rows narrows 'for every input' (looked for: loops, veiled, ifaces, maps, wideKeys, modest, calm, conditions, laid).
  DERIVED. THE GIVEN ROWS OF THIS SEAT. 8 by the template 'for every input the law returns true; each argument reads behind the call as it read before'; 0 by the template 'total and deterministic' (their statements: YtaokenlcjkomhaaTotals.lean).
  GIVEN WITH THE SEED: the statements are not yours to turn. If you find one false, say at which input.
  Laid BY PROGRAM, IN A SANDBOX (cutbox-rows.mjs): the forced cells as the released guide's own fill.sh prints them over the translation d96b1ec261e18b14… (all of the seat's roots in one cut). By AI agents, Wed Nov 11 2026. No macro, syntax, notation, axiom, sorry.
-/
import Derived.Test.YtaokenlcjkomhaaChecked
import GoSem.Claim
import GoSem.ClaimJoined
import GoSem.ClaimMapViews
import Derived.JoinedTies
import Derived.KernelRfl
namespace Go.Proofs.Ytaokenlcjkomhaa
/- THE CELL 'sum', in the pinned program and in every row, IS THE sha256 OF THE DUMP (.gsa) THAT YtaokenlcjkomhaaProg.lean LOADS. Nothing in Lean hashes anything: it is a label: what it is worth is what the hold of that sum in a sandbox is worth. -/
noncomputable def Try.pinned : Pinned := { name := "ytaokenlcjkomhaa", sum := "d96b1ec261e18b1424251a946f4ddc5d19db5ada4fd9a2b8b0c28170942f0009", checked := Try.checked }
namespace Rows
def none {H : Type} : Left H := { results := [], args := [] }

/-- 'wampumlaw12.RecordPlays': WHATEVER THE INPUT: true; the input reads as it did. -/
def recordPlaysSpec : ChangeSpec := { name := "recordPlays", fn := fun _ => fun
  | [d1, d2] => { results := [.lit (.bool true)], args := [d1, d2] }
  | _ => none }
def recordPlaysRow : OpenClaim := { program := "ytaokenlcjkomhaa", sum := "d96b1ec261e18b1424251a946f4ddc5d19db5ada4fd9a2b8b0c28170942f0009", func := "wampum/wampumlaw12.RecordPlays", spec := "recordPlays", apart := false }
def RecordPlaysSaid : Prop := recordPlaysRow.holds Try.pinned (OpenSpec.ofChange recordPlaysSpec)

/-- ITS FALSE NEIGHBOUR: 'it returns false'. Refute it at one input. -/
def recordPlaysWrong : ChangeSpec := { name := "recordPlays", fn := fun _ => fun
  | [d1, d2] => { results := [.lit (.bool false)], args := [d1, d2] }
  | _ => none }
def RecordPlaysWrongFalsely : Prop := recordPlaysRow.holds Try.pinned (OpenSpec.ofChange recordPlaysWrong)

/-- 'wampumlaw12.RecordStaged': WHATEVER THE INPUT: true; the input reads as it did. -/
def recordStagedSpec : ChangeSpec := { name := "recordStaged", fn := fun _ => fun
  | [d1, d2] => { results := [.lit (.bool true)], args := [d1, d2] }
  | _ => none }
def recordStagedRow : OpenClaim := { program := "ytaokenlcjkomhaa", sum := "d96b1ec261e18b1424251a946f4ddc5d19db5ada4fd9a2b8b0c28170942f0009", func := "wampum/wampumlaw12.RecordStaged", spec := "recordStaged", apart := false }
def RecordStagedSaid : Prop := recordStagedRow.holds Try.pinned (OpenSpec.ofChange recordStagedSpec)

/-- ITS FALSE NEIGHBOUR: 'it returns false'. Refute it at one input. -/
def recordStagedWrong : ChangeSpec := { name := "recordStaged", fn := fun _ => fun
  | [d1, d2] => { results := [.lit (.bool false)], args := [d1, d2] }
  | _ => none }
def RecordStagedWrongFalsely : Prop := recordStagedRow.holds Try.pinned (OpenSpec.ofChange recordStagedWrong)

/-- 'wampumlaw12.RecordPush': WHATEVER THE INPUT: true; the input reads as it did. -/
def recordPushSpec : ChangeSpec := { name := "recordPush", fn := fun _ => fun
  | [d1, d2] => { results := [.lit (.bool true)], args := [d1, d2] }
  | _ => none }
def recordPushRow : OpenClaim := { program := "ytaokenlcjkomhaa", sum := "d96b1ec261e18b1424251a946f4ddc5d19db5ada4fd9a2b8b0c28170942f0009", func := "wampum/wampumlaw12.RecordPush", spec := "recordPush", apart := false }
def RecordPushSaid : Prop := recordPushRow.holds Try.pinned (OpenSpec.ofChange recordPushSpec)

/-- ITS FALSE NEIGHBOUR: 'it returns false'. Refute it at one input. -/
def recordPushWrong : ChangeSpec := { name := "recordPush", fn := fun _ => fun
  | [d1, d2] => { results := [.lit (.bool false)], args := [d1, d2] }
  | _ => none }
def RecordPushWrongFalsely : Prop := recordPushRow.holds Try.pinned (OpenSpec.ofChange recordPushWrong)

/-- 'wampumlaw12.RecordBeats': WHATEVER THE INPUT: true; the input reads as it did. -/
def recordBeatsSpec : ChangeSpec := { name := "recordBeats", fn := fun _ => fun
  | [d1, d2, d3] => { results := [.lit (.bool true)], args := [d1, d2, d3] }
  | _ => none }
def recordBeatsRow : OpenClaim := { program := "ytaokenlcjkomhaa", sum := "d96b1ec261e18b1424251a946f4ddc5d19db5ada4fd9a2b8b0c28170942f0009", func := "wampum/wampumlaw12.RecordBeats", spec := "recordBeats", apart := false }
def RecordBeatsSaid : Prop := recordBeatsRow.holds Try.pinned (OpenSpec.ofChange recordBeatsSpec)

/-- ITS FALSE NEIGHBOUR: 'it returns false'. Refute it at one input. -/
def recordBeatsWrong : ChangeSpec := { name := "recordBeats", fn := fun _ => fun
  | [d1, d2, d3] => { results := [.lit (.bool false)], args := [d1, d2, d3] }
  | _ => none }
def RecordBeatsWrongFalsely : Prop := recordBeatsRow.holds Try.pinned (OpenSpec.ofChange recordBeatsWrong)

/-- 'wampumlaw12.RecordOnce': WHATEVER THE INPUT: true; the input reads as it did. -/
def recordOnceSpec : ChangeSpec := { name := "recordOnce", fn := fun _ => fun
  | [d1, d2] => { results := [.lit (.bool true)], args := [d1, d2] }
  | _ => none }
def recordOnceRow : OpenClaim := { program := "ytaokenlcjkomhaa", sum := "d96b1ec261e18b1424251a946f4ddc5d19db5ada4fd9a2b8b0c28170942f0009", func := "wampum/wampumlaw12.RecordOnce", spec := "recordOnce", apart := false }
def RecordOnceSaid : Prop := recordOnceRow.holds Try.pinned (OpenSpec.ofChange recordOnceSpec)

/-- ITS FALSE NEIGHBOUR: 'it returns false'. Refute it at one input. -/
def recordOnceWrong : ChangeSpec := { name := "recordOnce", fn := fun _ => fun
  | [d1, d2] => { results := [.lit (.bool false)], args := [d1, d2] }
  | _ => none }
def RecordOnceWrongFalsely : Prop := recordOnceRow.holds Try.pinned (OpenSpec.ofChange recordOnceWrong)

/-- 'wampumlaw12.RecordTells': WHATEVER THE INPUT: true; the input reads as it did. -/
def recordTellsSpec : ChangeSpec := { name := "recordTells", fn := fun _ => fun
  | [d1, d2, d3] => { results := [.lit (.bool true)], args := [d1, d2, d3] }
  | _ => none }
def recordTellsRow : OpenClaim := { program := "ytaokenlcjkomhaa", sum := "d96b1ec261e18b1424251a946f4ddc5d19db5ada4fd9a2b8b0c28170942f0009", func := "wampum/wampumlaw12.RecordTells", spec := "recordTells", apart := false }
def RecordTellsSaid : Prop := recordTellsRow.holds Try.pinned (OpenSpec.ofChange recordTellsSpec)

/-- ITS FALSE NEIGHBOUR: 'it returns false'. Refute it at one input. -/
def recordTellsWrong : ChangeSpec := { name := "recordTells", fn := fun _ => fun
  | [d1, d2, d3] => { results := [.lit (.bool false)], args := [d1, d2, d3] }
  | _ => none }
def RecordTellsWrongFalsely : Prop := recordTellsRow.holds Try.pinned (OpenSpec.ofChange recordTellsWrong)

/-- 'wampumlaw12.RecordReads': WHATEVER THE INPUT: true; the input reads as it did. -/
def recordReadsSpec : ChangeSpec := { name := "recordReads", fn := fun _ => fun
  | [d] => { results := [.lit (.bool true)], args := [d] }
  | _ => none }
def recordReadsRow : OpenClaim := { program := "ytaokenlcjkomhaa", sum := "d96b1ec261e18b1424251a946f4ddc5d19db5ada4fd9a2b8b0c28170942f0009", func := "wampum/wampumlaw12.RecordReads", spec := "recordReads", unfollowed := true, recurses := true, apart := false }
def RecordReadsSaid : Prop := recordReadsRow.holds Try.pinned (OpenSpec.ofChange recordReadsSpec)

/-- ITS FALSE NEIGHBOUR: 'it returns false'. Refute it at one input. -/
def recordReadsWrong : ChangeSpec := { name := "recordReads", fn := fun _ => fun
  | [d] => { results := [.lit (.bool false)], args := [d] }
  | _ => none }
def RecordReadsWrongFalsely : Prop := recordReadsRow.holds Try.pinned (OpenSpec.ofChange recordReadsWrong)

/-- 'wampumlaw12.RecordBack': WHATEVER THE INPUT: true; the input reads as it did. -/
def recordBackSpec : ChangeSpec := { name := "recordBack", fn := fun _ => fun
  | [d1, d2] => { results := [.lit (.bool true)], args := [d1, d2] }
  | _ => none }
def recordBackRow : OpenClaim := { program := "ytaokenlcjkomhaa", sum := "d96b1ec261e18b1424251a946f4ddc5d19db5ada4fd9a2b8b0c28170942f0009", func := "wampum/wampumlaw12.RecordBack", spec := "recordBack", unfollowed := true, recurses := true, apart := false }
def RecordBackSaid : Prop := recordBackRow.holds Try.pinned (OpenSpec.ofChange recordBackSpec)

/-- ITS FALSE NEIGHBOUR: 'it returns false'. Refute it at one input. -/
def recordBackWrong : ChangeSpec := { name := "recordBack", fn := fun _ => fun
  | [d1, d2] => { results := [.lit (.bool false)], args := [d1, d2] }
  | _ => none }
def RecordBackWrongFalsely : Prop := recordBackRow.holds Try.pinned (OpenSpec.ofChange recordBackWrong)

/- THE SECOND FORM. 'bulk': how many values and letters a reading holds, each counted each time it is reached (what is shared counts as often as it is met; a slice's spare places count too). A statement '..UptoSaid' is the law's where the arguments, and the package variables that the reading takes, are together of bulk at most 1048576: NARROWER than '..Said'. Prove '..Said' where nothing that the law and all that it calls make is longer than what came in: it says more and counts as full. Else prove '..UptoSaid'. A law counts once. -/
mutual
def uptoBulk {H : Type} : DataW H → Nat
  | .lit (.string bytes) => bytes.length + 1
  | .lit _ => 1
  | .nil => 1
  | .ptr d => uptoBulk d + 1
  | .slice elems spare => uptoBulkAll elems + uptoBulkAll spare + 1
  | .agg parts => uptoBulkAll parts + 1
  | .iface _ d => uptoBulk d + 1
  | .map entries => uptoBulkEntries entries + 1
  | .held _ => 1
def uptoBulkAll {H : Type} : List (DataW H) → Nat
  | [] => 0
  | d :: r => uptoBulk d + uptoBulkAll r
def uptoBulkEntries {H : Type} : List (Lit × DataW H) → Nat
  | [] => 0
  | x :: r => uptoBulkEntry x + uptoBulkEntries r
def uptoBulkEntry {H : Type} : Lit × DataW H → Nat
  | (.string bytes, d) => bytes.length + uptoBulk d + 1
  | (_, d) => uptoBulk d + 1
 end
def uptoSmall : (H : Type) → List (DataW H) → Bool := fun _ ds => decide (uptoBulkAll ds ≤ 1048576)
def OpenSpec.upto (s : _root_.Go.ChangeSpec) : _root_.Go.OpenSpec := { _root_.Go.OpenSpec.ofChange s with cond := some uptoSmall }

/-- 'wampumlaw12.RecordPlays', WHERE WHAT IT READS IS OF BULK AT MOST 1048576: true; the input reads as it did. -/
def recordPlaysUptoRow : OpenClaim := { program := "ytaokenlcjkomhaa", sum := "d96b1ec261e18b1424251a946f4ddc5d19db5ada4fd9a2b8b0c28170942f0009", func := "wampum/wampumlaw12.RecordPlays", spec := "recordPlays", apart := false, narrowed := true }
def RecordPlaysUptoSaid : Prop := recordPlaysUptoRow.holds Try.pinned (OpenSpec.upto recordPlaysSpec)

/-- 'wampumlaw12.RecordStaged', WHERE WHAT IT READS IS OF BULK AT MOST 1048576: true; the input reads as it did. -/
def recordStagedUptoRow : OpenClaim := { program := "ytaokenlcjkomhaa", sum := "d96b1ec261e18b1424251a946f4ddc5d19db5ada4fd9a2b8b0c28170942f0009", func := "wampum/wampumlaw12.RecordStaged", spec := "recordStaged", apart := false, narrowed := true }
def RecordStagedUptoSaid : Prop := recordStagedUptoRow.holds Try.pinned (OpenSpec.upto recordStagedSpec)

/-- 'wampumlaw12.RecordPush', WHERE WHAT IT READS IS OF BULK AT MOST 1048576: true; the input reads as it did. -/
def recordPushUptoRow : OpenClaim := { program := "ytaokenlcjkomhaa", sum := "d96b1ec261e18b1424251a946f4ddc5d19db5ada4fd9a2b8b0c28170942f0009", func := "wampum/wampumlaw12.RecordPush", spec := "recordPush", apart := false, narrowed := true }
def RecordPushUptoSaid : Prop := recordPushUptoRow.holds Try.pinned (OpenSpec.upto recordPushSpec)

/-- 'wampumlaw12.RecordBeats', WHERE WHAT IT READS IS OF BULK AT MOST 1048576: true; the input reads as it did. -/
def recordBeatsUptoRow : OpenClaim := { program := "ytaokenlcjkomhaa", sum := "d96b1ec261e18b1424251a946f4ddc5d19db5ada4fd9a2b8b0c28170942f0009", func := "wampum/wampumlaw12.RecordBeats", spec := "recordBeats", apart := false, narrowed := true }
def RecordBeatsUptoSaid : Prop := recordBeatsUptoRow.holds Try.pinned (OpenSpec.upto recordBeatsSpec)

/-- 'wampumlaw12.RecordOnce', WHERE WHAT IT READS IS OF BULK AT MOST 1048576: true; the input reads as it did. -/
def recordOnceUptoRow : OpenClaim := { program := "ytaokenlcjkomhaa", sum := "d96b1ec261e18b1424251a946f4ddc5d19db5ada4fd9a2b8b0c28170942f0009", func := "wampum/wampumlaw12.RecordOnce", spec := "recordOnce", apart := false, narrowed := true }
def RecordOnceUptoSaid : Prop := recordOnceUptoRow.holds Try.pinned (OpenSpec.upto recordOnceSpec)

/-- 'wampumlaw12.RecordTells', WHERE WHAT IT READS IS OF BULK AT MOST 1048576: true; the input reads as it did. -/
def recordTellsUptoRow : OpenClaim := { program := "ytaokenlcjkomhaa", sum := "d96b1ec261e18b1424251a946f4ddc5d19db5ada4fd9a2b8b0c28170942f0009", func := "wampum/wampumlaw12.RecordTells", spec := "recordTells", apart := false, narrowed := true }
def RecordTellsUptoSaid : Prop := recordTellsUptoRow.holds Try.pinned (OpenSpec.upto recordTellsSpec)

/-- 'wampumlaw12.RecordReads', WHERE WHAT IT READS IS OF BULK AT MOST 1048576: true; the input reads as it did. -/
def recordReadsUptoRow : OpenClaim := { program := "ytaokenlcjkomhaa", sum := "d96b1ec261e18b1424251a946f4ddc5d19db5ada4fd9a2b8b0c28170942f0009", func := "wampum/wampumlaw12.RecordReads", spec := "recordReads", unfollowed := true, recurses := true, apart := false, narrowed := true }
def RecordReadsUptoSaid : Prop := recordReadsUptoRow.holds Try.pinned (OpenSpec.upto recordReadsSpec)

/-- 'wampumlaw12.RecordBack', WHERE WHAT IT READS IS OF BULK AT MOST 1048576: true; the input reads as it did. -/
def recordBackUptoRow : OpenClaim := { program := "ytaokenlcjkomhaa", sum := "d96b1ec261e18b1424251a946f4ddc5d19db5ada4fd9a2b8b0c28170942f0009", func := "wampum/wampumlaw12.RecordBack", spec := "recordBack", unfollowed := true, recurses := true, apart := false, narrowed := true }
def RecordBackUptoSaid : Prop := recordBackUptoRow.holds Try.pinned (OpenSpec.upto recordBackSpec)

end Rows
end Go.Proofs.Ytaokenlcjkomhaa
