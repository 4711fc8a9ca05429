/-
  No cell of these rows narrows 'for every input' (looked for: loops, veiled, ifaces, maps, wideKeys, modest, calm, conditions, laid).
  DERIVED. THE GIVEN ROWS OF THIS SEAT. 4 by the template 'for every input the law returns true; each argument reads behind the call as it read before'; 0 by the template 'total and deterministic' (their statements: YtbfaobkahgadaaaTotals.lean).
  GIVEN WITH THE SEED: the statements are not yours to turn. If you find one false, say at which input.
  Laid BY PROGRAM, IN A SANDBOX (cutbox-rows.mjs): the forced cells as the released guide's own fill.sh prints them over the translation 9400f4b469dcfad7… (all of the seat's roots in one cut). By AI agents, Wed Nov 11 2026. No macro, syntax, notation, axiom, sorry.
-/
import Derived.Test.YtbfaobkahgadaaaChecked
import GoSem.Claim
import GoSem.ClaimJoined
import GoSem.ClaimMapViews
import Derived.JoinedTies
import Derived.KernelRfl
namespace Go.Proofs.Ytbfaobkahgadaaa
/- THE CELL 'sum', in the pinned program and in every row, IS THE sha256 OF THE DUMP (.gsa) THAT YtbfaobkahgadaaaProg.lean LOADS. Nothing in Lean hashes anything: it is a label: what it is worth is what the hold of that sum in a sandbox is worth. -/
noncomputable def Try.pinned : Pinned := { name := "ytbfaobkahgadaaa", sum := "9400f4b469dcfad71252df672b88f20023f6126c254f4ff13975c7ebad64a75b", checked := Try.checked }
namespace Rows
def none {H : Type} : Left H := { results := [], args := [] }

/-- 'wampumlaw21.DirectoryTells': WHATEVER THE INPUT: true; the input reads as it did. -/
def directoryTellsSpec : ChangeSpec := { name := "directoryTells", fn := fun _ => fun
  | [d1, d2, d3] => { results := [.lit (.bool true)], args := [d1, d2, d3] }
  | _ => none }
def directoryTellsRow : OpenClaim := { program := "ytbfaobkahgadaaa", sum := "9400f4b469dcfad71252df672b88f20023f6126c254f4ff13975c7ebad64a75b", func := "wampum/wampumlaw21.DirectoryTells", spec := "directoryTells", unfollowed := true, recurses := true, apart := false }
def DirectoryTellsSaid : Prop := directoryTellsRow.holds Try.pinned (OpenSpec.ofChange directoryTellsSpec)

/-- ITS FALSE NEIGHBOUR: 'it returns false'. Refute it at one input. -/
def directoryTellsWrong : ChangeSpec := { name := "directoryTells", fn := fun _ => fun
  | [d1, d2, d3] => { results := [.lit (.bool false)], args := [d1, d2, d3] }
  | _ => none }
def DirectoryTellsWrongFalsely : Prop := directoryTellsRow.holds Try.pinned (OpenSpec.ofChange directoryTellsWrong)

/-- 'wampumlaw21.DirectoryOnce': WHATEVER THE INPUT: true; the input reads as it did. -/
def directoryOnceSpec : ChangeSpec := { name := "directoryOnce", fn := fun _ => fun
  | [d1, d2, d3] => { results := [.lit (.bool true)], args := [d1, d2, d3] }
  | _ => none }
def directoryOnceRow : OpenClaim := { program := "ytbfaobkahgadaaa", sum := "9400f4b469dcfad71252df672b88f20023f6126c254f4ff13975c7ebad64a75b", func := "wampum/wampumlaw21.DirectoryOnce", spec := "directoryOnce", unfollowed := true, recurses := true, apart := false }
def DirectoryOnceSaid : Prop := directoryOnceRow.holds Try.pinned (OpenSpec.ofChange directoryOnceSpec)

/-- ITS FALSE NEIGHBOUR: 'it returns false'. Refute it at one input. -/
def directoryOnceWrong : ChangeSpec := { name := "directoryOnce", fn := fun _ => fun
  | [d1, d2, d3] => { results := [.lit (.bool false)], args := [d1, d2, d3] }
  | _ => none }
def DirectoryOnceWrongFalsely : Prop := directoryOnceRow.holds Try.pinned (OpenSpec.ofChange directoryOnceWrong)

/-- 'wampumlaw21.DirectoryNil': WHATEVER THE INPUT: true; the input reads as it did. -/
def directoryNilSpec : ChangeSpec := { name := "directoryNil", fn := fun _ => fun
  | [d] => { results := [.lit (.bool true)], args := [d] }
  | _ => none }
def directoryNilRow : OpenClaim := { program := "ytbfaobkahgadaaa", sum := "9400f4b469dcfad71252df672b88f20023f6126c254f4ff13975c7ebad64a75b", func := "wampum/wampumlaw21.DirectoryNil", spec := "directoryNil", unfollowed := true, recurses := true, apart := false }
def DirectoryNilSaid : Prop := directoryNilRow.holds Try.pinned (OpenSpec.ofChange directoryNilSpec)

/-- ITS FALSE NEIGHBOUR: 'it returns false'. Refute it at one input. -/
def directoryNilWrong : ChangeSpec := { name := "directoryNil", fn := fun _ => fun
  | [d] => { results := [.lit (.bool false)], args := [d] }
  | _ => none }
def DirectoryNilWrongFalsely : Prop := directoryNilRow.holds Try.pinned (OpenSpec.ofChange directoryNilWrong)

/-- 'wampumlaw21.DirectoryWhole': WHATEVER THE INPUT: true; the input reads as it did. -/
def directoryWholeSpec : ChangeSpec := { name := "directoryWhole", fn := fun _ => fun
  | [d1, d2, d3] => { results := [.lit (.bool true)], args := [d1, d2, d3] }
  | _ => none }
def directoryWholeRow : OpenClaim := { program := "ytbfaobkahgadaaa", sum := "9400f4b469dcfad71252df672b88f20023f6126c254f4ff13975c7ebad64a75b", func := "wampum/wampumlaw21.DirectoryWhole", spec := "directoryWhole", unfollowed := true, recurses := true, apart := false }
def DirectoryWholeSaid : Prop := directoryWholeRow.holds Try.pinned (OpenSpec.ofChange directoryWholeSpec)

/-- ITS FALSE NEIGHBOUR: 'it returns false'. Refute it at one input. -/
def directoryWholeWrong : ChangeSpec := { name := "directoryWhole", fn := fun _ => fun
  | [d1, d2, d3] => { results := [.lit (.bool false)], args := [d1, d2, d3] }
  | _ => none }
def DirectoryWholeWrongFalsely : Prop := directoryWholeRow.holds Try.pinned (OpenSpec.ofChange directoryWholeWrong)

/- THE SECOND FORM. 'bulk': how many values and letters a reading holds, each counted each time it is reached (what is shared counts as often as it is met; a slice's spare places count too). A statement '..UptoSaid' is the law's where the arguments, and the package variables that the reading takes, are together of bulk at most 1048576: NARROWER than '..Said'. Prove '..Said' where nothing that the law and all that it calls make is longer than what came in: it says more and counts as full. Else prove '..UptoSaid'. A law counts once. -/
mutual
def uptoBulk {H : Type} : DataW H → Nat
  | .lit (.string bytes) => bytes.length + 1
  | .lit _ => 1
  | .nil => 1
  | .ptr d => uptoBulk d + 1
  | .slice elems spare => uptoBulkAll elems + uptoBulkAll spare + 1
  | .agg parts => uptoBulkAll parts + 1
  | .iface _ d => uptoBulk d + 1
  | .map entries => uptoBulkEntries entries + 1
  | .held _ => 1
def uptoBulkAll {H : Type} : List (DataW H) → Nat
  | [] => 0
  | d :: r => uptoBulk d + uptoBulkAll r
def uptoBulkEntries {H : Type} : List (Lit × DataW H) → Nat
  | [] => 0
  | x :: r => uptoBulkEntry x + uptoBulkEntries r
def uptoBulkEntry {H : Type} : Lit × DataW H → Nat
  | (.string bytes, d) => bytes.length + uptoBulk d + 1
  | (_, d) => uptoBulk d + 1
 end
def uptoSmall : (H : Type) → List (DataW H) → Bool := fun _ ds => decide (uptoBulkAll ds ≤ 1048576)
def OpenSpec.upto (s : _root_.Go.ChangeSpec) : _root_.Go.OpenSpec := { _root_.Go.OpenSpec.ofChange s with cond := some uptoSmall }

/-- 'wampumlaw21.DirectoryTells', WHERE WHAT IT READS IS OF BULK AT MOST 1048576: true; the input reads as it did. -/
def directoryTellsUptoRow : OpenClaim := { program := "ytbfaobkahgadaaa", sum := "9400f4b469dcfad71252df672b88f20023f6126c254f4ff13975c7ebad64a75b", func := "wampum/wampumlaw21.DirectoryTells", spec := "directoryTells", unfollowed := true, recurses := true, apart := false, narrowed := true }
def DirectoryTellsUptoSaid : Prop := directoryTellsUptoRow.holds Try.pinned (OpenSpec.upto directoryTellsSpec)

/-- 'wampumlaw21.DirectoryOnce', WHERE WHAT IT READS IS OF BULK AT MOST 1048576: true; the input reads as it did. -/
def directoryOnceUptoRow : OpenClaim := { program := "ytbfaobkahgadaaa", sum := "9400f4b469dcfad71252df672b88f20023f6126c254f4ff13975c7ebad64a75b", func := "wampum/wampumlaw21.DirectoryOnce", spec := "directoryOnce", unfollowed := true, recurses := true, apart := false, narrowed := true }
def DirectoryOnceUptoSaid : Prop := directoryOnceUptoRow.holds Try.pinned (OpenSpec.upto directoryOnceSpec)

/-- 'wampumlaw21.DirectoryNil', WHERE WHAT IT READS IS OF BULK AT MOST 1048576: true; the input reads as it did. -/
def directoryNilUptoRow : OpenClaim := { program := "ytbfaobkahgadaaa", sum := "9400f4b469dcfad71252df672b88f20023f6126c254f4ff13975c7ebad64a75b", func := "wampum/wampumlaw21.DirectoryNil", spec := "directoryNil", unfollowed := true, recurses := true, apart := false, narrowed := true }
def DirectoryNilUptoSaid : Prop := directoryNilUptoRow.holds Try.pinned (OpenSpec.upto directoryNilSpec)

/-- 'wampumlaw21.DirectoryWhole', WHERE WHAT IT READS IS OF BULK AT MOST 1048576: true; the input reads as it did. -/
def directoryWholeUptoRow : OpenClaim := { program := "ytbfaobkahgadaaa", sum := "9400f4b469dcfad71252df672b88f20023f6126c254f4ff13975c7ebad64a75b", func := "wampum/wampumlaw21.DirectoryWhole", spec := "directoryWhole", unfollowed := true, recurses := true, apart := false, narrowed := true }
def DirectoryWholeUptoSaid : Prop := directoryWholeUptoRow.holds Try.pinned (OpenSpec.upto directoryWholeSpec)

end Rows
end Go.Proofs.Ytbfaobkahgadaaa
