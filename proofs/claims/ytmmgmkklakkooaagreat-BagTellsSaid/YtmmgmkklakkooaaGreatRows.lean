/-
  No cell of these rows narrows 'for every input' (looked for: loops, veiled, ifaces, maps, wideKeys, modest, calm, conditions, laid).
  DERIVED. THE GIVEN ROWS OF THIS SEAT. 5 by the template 'for every input the law returns true; each argument reads behind the call as it read before'; 0 by the template 'total and deterministic' (their statements: YtmmgmkklakkooaaGreatTotals.lean).
  GIVEN WITH THE SEED: the statements are not yours to turn. If you find one false, say at which input.
  Laid BY PROGRAM, IN A SANDBOX (cutbox-rows.mjs): the forced cells as the released guide's own fill.sh prints them over the translation 0f834bcef7fed261… (all of the seat's roots in one cut). By AI agents, Wed Nov 11 2026. No macro, syntax, notation, axiom, sorry.
-/
import Derived.Test.YtmmgmkklakkooaaGreatChecked
import GoSem.Claim
import GoSem.ClaimJoined
import GoSem.ClaimMapViews
import Derived.JoinedTies
import Derived.KernelRfl
namespace Go.Proofs.YtmmgmkklakkooaaGreat
/- THE CELL 'sum', in the pinned program and in every row, IS THE sha256 OF THE DUMP (.gsa) THAT YtmmgmkklakkooaaGreatProg.lean LOADS. Nothing in Lean hashes anything: it is a label: what it is worth is what the hold of that sum in a sandbox is worth. -/
noncomputable def Tryz.pinned : Pinned := { name := "ytmmgmkklakkooaagreat", sum := "0f834bcef7fed26107e140681a5e6ab19cd9377a16d173d1dbb90f979cb62d96", checked := Tryz.checked }
namespace Rows
def none {H : Type} : Left H := { results := [], args := [] }

/-- 'wampumlaw19.BagPlays': WHATEVER THE INPUT: true; the input reads as it did. -/
def bagPlaysSpec : ChangeSpec := { name := "bagPlays", fn := fun _ => fun
  | [d] => { results := [.lit (.bool true)], args := [d] }
  | _ => none }
def bagPlaysRow : OpenClaim := { program := "ytmmgmkklakkooaagreat", sum := "0f834bcef7fed26107e140681a5e6ab19cd9377a16d173d1dbb90f979cb62d96", func := "wampum/wampumlaw19.BagPlays", spec := "bagPlays", unfollowed := true, recurses := true, apart := false }
def BagPlaysSaid : Prop := bagPlaysRow.holds Tryz.pinned (OpenSpec.ofChange bagPlaysSpec)

/-- ITS FALSE NEIGHBOUR: 'it returns false'. Refute it at one input. -/
def bagPlaysWrong : ChangeSpec := { name := "bagPlays", fn := fun _ => fun
  | [d] => { results := [.lit (.bool false)], args := [d] }
  | _ => none }
def BagPlaysWrongFalsely : Prop := bagPlaysRow.holds Tryz.pinned (OpenSpec.ofChange bagPlaysWrong)

/-- 'wampumlaw19.BagFull': WHATEVER THE INPUT: true; the input reads as it did. -/
def bagFullSpec : ChangeSpec := { name := "bagFull", fn := fun _ => fun
  | [d1, d2] => { results := [.lit (.bool true)], args := [d1, d2] }
  | _ => none }
def bagFullRow : OpenClaim := { program := "ytmmgmkklakkooaagreat", sum := "0f834bcef7fed26107e140681a5e6ab19cd9377a16d173d1dbb90f979cb62d96", func := "wampum/wampumlaw19.BagFull", spec := "bagFull", unfollowed := true, recurses := true, apart := false }
def BagFullSaid : Prop := bagFullRow.holds Tryz.pinned (OpenSpec.ofChange bagFullSpec)

/-- ITS FALSE NEIGHBOUR: 'it returns false'. Refute it at one input. -/
def bagFullWrong : ChangeSpec := { name := "bagFull", fn := fun _ => fun
  | [d1, d2] => { results := [.lit (.bool false)], args := [d1, d2] }
  | _ => none }
def BagFullWrongFalsely : Prop := bagFullRow.holds Tryz.pinned (OpenSpec.ofChange bagFullWrong)

/-- 'wampumlaw19.BagNil': WHATEVER THE INPUT: true; the input reads as it did. -/
def bagNilSpec : ChangeSpec := { name := "bagNil", fn := fun _ => fun
  | [d] => { results := [.lit (.bool true)], args := [d] }
  | _ => none }
def bagNilRow : OpenClaim := { program := "ytmmgmkklakkooaagreat", sum := "0f834bcef7fed26107e140681a5e6ab19cd9377a16d173d1dbb90f979cb62d96", func := "wampum/wampumlaw19.BagNil", spec := "bagNil", unfollowed := true, recurses := true, apart := false }
def BagNilSaid : Prop := bagNilRow.holds Tryz.pinned (OpenSpec.ofChange bagNilSpec)

/-- ITS FALSE NEIGHBOUR: 'it returns false'. Refute it at one input. -/
def bagNilWrong : ChangeSpec := { name := "bagNil", fn := fun _ => fun
  | [d] => { results := [.lit (.bool false)], args := [d] }
  | _ => none }
def BagNilWrongFalsely : Prop := bagNilRow.holds Tryz.pinned (OpenSpec.ofChange bagNilWrong)

/-- 'wampumlaw19.BagTells': WHATEVER THE INPUT: true; the input reads as it did. -/
def bagTellsSpec : ChangeSpec := { name := "bagTells", fn := fun _ => fun
  | [d1, d2, d3] => { results := [.lit (.bool true)], args := [d1, d2, d3] }
  | _ => none }
def bagTellsRow : OpenClaim := { program := "ytmmgmkklakkooaagreat", sum := "0f834bcef7fed26107e140681a5e6ab19cd9377a16d173d1dbb90f979cb62d96", func := "wampum/wampumlaw19.BagTells", spec := "bagTells", unfollowed := true, recurses := true, apart := false }
def BagTellsSaid : Prop := bagTellsRow.holds Tryz.pinned (OpenSpec.ofChange bagTellsSpec)

/-- ITS FALSE NEIGHBOUR: 'it returns false'. Refute it at one input. -/
def bagTellsWrong : ChangeSpec := { name := "bagTells", fn := fun _ => fun
  | [d1, d2, d3] => { results := [.lit (.bool false)], args := [d1, d2, d3] }
  | _ => none }
def BagTellsWrongFalsely : Prop := bagTellsRow.holds Tryz.pinned (OpenSpec.ofChange bagTellsWrong)

/-- 'wampumlaw19.BagLooks': WHATEVER THE INPUT: true; the input reads as it did. -/
def bagLooksSpec : ChangeSpec := { name := "bagLooks", fn := fun _ => fun
  | [d1, d2] => { results := [.lit (.bool true)], args := [d1, d2] }
  | _ => none }
def bagLooksRow : OpenClaim := { program := "ytmmgmkklakkooaagreat", sum := "0f834bcef7fed26107e140681a5e6ab19cd9377a16d173d1dbb90f979cb62d96", func := "wampum/wampumlaw19.BagLooks", spec := "bagLooks", unfollowed := true, recurses := true, apart := false }
def BagLooksSaid : Prop := bagLooksRow.holds Tryz.pinned (OpenSpec.ofChange bagLooksSpec)

/-- ITS FALSE NEIGHBOUR: 'it returns false'. Refute it at one input. -/
def bagLooksWrong : ChangeSpec := { name := "bagLooks", fn := fun _ => fun
  | [d1, d2] => { results := [.lit (.bool false)], args := [d1, d2] }
  | _ => none }
def BagLooksWrongFalsely : Prop := bagLooksRow.holds Tryz.pinned (OpenSpec.ofChange bagLooksWrong)

/- THE SECOND FORM. 'bulk': how many values and letters a reading holds, each counted each time it is reached (what is shared counts as often as it is met; a slice's spare places count too). A statement '..UptoSaid' is the law's where the arguments, and the package variables that the reading takes, are together of bulk at most 1048576: NARROWER than '..Said'. Prove '..Said' where nothing that the law and all that it calls make is longer than what came in: it says more and counts as full. Else prove '..UptoSaid'. A law counts once. -/
mutual
def uptoBulk {H : Type} : DataW H → Nat
  | .lit (.string bytes) => bytes.length + 1
  | .lit _ => 1
  | .nil => 1
  | .ptr d => uptoBulk d + 1
  | .slice elems spare => uptoBulkAll elems + uptoBulkAll spare + 1
  | .agg parts => uptoBulkAll parts + 1
  | .iface _ d => uptoBulk d + 1
  | .map entries => uptoBulkEntries entries + 1
  | .held _ => 1
def uptoBulkAll {H : Type} : List (DataW H) → Nat
  | [] => 0
  | d :: r => uptoBulk d + uptoBulkAll r
def uptoBulkEntries {H : Type} : List (Lit × DataW H) → Nat
  | [] => 0
  | x :: r => uptoBulkEntry x + uptoBulkEntries r
def uptoBulkEntry {H : Type} : Lit × DataW H → Nat
  | (.string bytes, d) => bytes.length + uptoBulk d + 1
  | (_, d) => uptoBulk d + 1
 end
def uptoSmall : (H : Type) → List (DataW H) → Bool := fun _ ds => decide (uptoBulkAll ds ≤ 1048576)
def OpenSpec.upto (s : _root_.Go.ChangeSpec) : _root_.Go.OpenSpec := { _root_.Go.OpenSpec.ofChange s with cond := some uptoSmall }

/-- 'wampumlaw19.BagPlays', WHERE WHAT IT READS IS OF BULK AT MOST 1048576: true; the input reads as it did. -/
def bagPlaysUptoRow : OpenClaim := { program := "ytmmgmkklakkooaagreat", sum := "0f834bcef7fed26107e140681a5e6ab19cd9377a16d173d1dbb90f979cb62d96", func := "wampum/wampumlaw19.BagPlays", spec := "bagPlays", unfollowed := true, recurses := true, apart := false, narrowed := true }
def BagPlaysUptoSaid : Prop := bagPlaysUptoRow.holds Tryz.pinned (OpenSpec.upto bagPlaysSpec)

/-- 'wampumlaw19.BagFull', WHERE WHAT IT READS IS OF BULK AT MOST 1048576: true; the input reads as it did. -/
def bagFullUptoRow : OpenClaim := { program := "ytmmgmkklakkooaagreat", sum := "0f834bcef7fed26107e140681a5e6ab19cd9377a16d173d1dbb90f979cb62d96", func := "wampum/wampumlaw19.BagFull", spec := "bagFull", unfollowed := true, recurses := true, apart := false, narrowed := true }
def BagFullUptoSaid : Prop := bagFullUptoRow.holds Tryz.pinned (OpenSpec.upto bagFullSpec)

/-- 'wampumlaw19.BagNil', WHERE WHAT IT READS IS OF BULK AT MOST 1048576: true; the input reads as it did. -/
def bagNilUptoRow : OpenClaim := { program := "ytmmgmkklakkooaagreat", sum := "0f834bcef7fed26107e140681a5e6ab19cd9377a16d173d1dbb90f979cb62d96", func := "wampum/wampumlaw19.BagNil", spec := "bagNil", unfollowed := true, recurses := true, apart := false, narrowed := true }
def BagNilUptoSaid : Prop := bagNilUptoRow.holds Tryz.pinned (OpenSpec.upto bagNilSpec)

/-- 'wampumlaw19.BagTells', WHERE WHAT IT READS IS OF BULK AT MOST 1048576: true; the input reads as it did. -/
def bagTellsUptoRow : OpenClaim := { program := "ytmmgmkklakkooaagreat", sum := "0f834bcef7fed26107e140681a5e6ab19cd9377a16d173d1dbb90f979cb62d96", func := "wampum/wampumlaw19.BagTells", spec := "bagTells", unfollowed := true, recurses := true, apart := false, narrowed := true }
def BagTellsUptoSaid : Prop := bagTellsUptoRow.holds Tryz.pinned (OpenSpec.upto bagTellsSpec)

/-- 'wampumlaw19.BagLooks', WHERE WHAT IT READS IS OF BULK AT MOST 1048576: true; the input reads as it did. -/
def bagLooksUptoRow : OpenClaim := { program := "ytmmgmkklakkooaagreat", sum := "0f834bcef7fed26107e140681a5e6ab19cd9377a16d173d1dbb90f979cb62d96", func := "wampum/wampumlaw19.BagLooks", spec := "bagLooks", unfollowed := true, recurses := true, apart := false, narrowed := true }
def BagLooksUptoSaid : Prop := bagLooksUptoRow.holds Tryz.pinned (OpenSpec.upto bagLooksSpec)

end Rows
end Go.Proofs.YtmmgmkklakkooaaGreat
