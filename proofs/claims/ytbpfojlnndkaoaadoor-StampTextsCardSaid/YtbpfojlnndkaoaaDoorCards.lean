/-
  DERIVED. GIVEN WITH THE SEED: THE CARDS: each row of YtbpfojlnndkaoaaDoorRows.lean that lists a variable, with what it lists TIED to the program's text (the seventh form; the later family's looks); each row that meets fmt, with fmt's text TOLD by the authors' own Lean function (tested against real Go, not proved from fmt's source: count such statements apart). THE CARD IS WHAT COUNTS. Prove the row's statement (the work); the ties are given (YtbpfojlnndkaoaaDoorTie.lean); close each card by the builder's one call (the guide's Derived/Test/ToyasCard.lean, 'card_holds'). Laid BY PROGRAM, IN A SANDBOX (cutbox-door.mjs). By AI agents, Wed Nov 11 2026. No macro, syntax, notation, axiom, sorry.
-/
import Derived.Test.YtbpfojlnndkaoaaDoorRows
import GoSem.ClaimSeven
namespace Go.Proofs.YtbpfojlnndkaoaaDoor
namespace Rows

/-- THE TIED CARD OF 'wampumlaw03.StampTexts'. -/
def stampTextsCard : Claim7 := { stood := { row := stampTextsRow, standIns := [], harness := (true, "6e679ea8d9b722efa1fe9bd0a58ec18ea01b5cc0c4205afa5697783e08763215"), looks := false }, kinds := [], alts := [], laidByText := true, laidKinds := [.data, .data, .data], laidTests := true, laidLooks := .later }
def StampTextsCardSaid : Prop := Claim7.holds Tryd.pinned (.plain (OpenSpec.ofChange stampTextsSpec)) stampTextsCard

/-- THE TIED CARD OF 'wampumlaw03.StampPlus'. -/
def stampPlusCard : Claim7 := { stood := { row := stampPlusRow, standIns := [], harness := (true, "6e679ea8d9b722efa1fe9bd0a58ec18ea01b5cc0c4205afa5697783e08763215"), looks := false }, kinds := [], alts := [], laidByText := true, laidKinds := [.data, .data, .data], laidTests := true, laidLooks := .later }
def StampPlusCardSaid : Prop := Claim7.holds Tryd.pinned (.plain (OpenSpec.ofChange stampPlusSpec)) stampPlusCard

/-- THE TIED CARD OF 'wampumlaw03.StampOrder'. -/
def stampOrderCard : Claim7 := { stood := { row := stampOrderRow, standIns := [], harness := (true, "6e679ea8d9b722efa1fe9bd0a58ec18ea01b5cc0c4205afa5697783e08763215"), looks := false }, kinds := [], alts := [], laidByText := true, laidKinds := [.data, .data, .data], laidTests := true, laidLooks := .later }
def StampOrderCardSaid : Prop := Claim7.holds Tryd.pinned (.plain (OpenSpec.ofChange stampOrderSpec)) stampOrderCard

/-- THE TIED CARD OF 'wampumlaw03.StampTells'. -/
def stampTellsCard : Claim7 := { stood := { row := stampTellsRow, standIns := [], harness := (true, "6e679ea8d9b722efa1fe9bd0a58ec18ea01b5cc0c4205afa5697783e08763215"), looks := false }, kinds := [], alts := [], laidByText := true, laidKinds := [.data, .data, .data], laidTests := true, laidLooks := .later }
def StampTellsCardSaid : Prop := Claim7.holds Tryd.pinned (.plain (OpenSpec.ofChange stampTellsSpec)) stampTellsCard

/-- THE TIED CARD OF 'wampumlaw03.StampBytes'. -/
def stampBytesCard : Claim7 := { stood := { row := stampBytesRow, standIns := [], harness := (true, "6e679ea8d9b722efa1fe9bd0a58ec18ea01b5cc0c4205afa5697783e08763215"), looks := false }, kinds := [], alts := [], laidByText := true, laidKinds := [.data, .data, .data], laidTests := true, laidLooks := .later }
def StampBytesCardSaid : Prop := Claim7.holds Tryd.pinned (.plain (OpenSpec.ofChange stampBytesSpec)) stampBytesCard

/-- THE TIED CARD OF 'wampumlaw03.StampBack'. -/
def stampBackCard : Claim7 := { stood := { row := stampBackRow, standIns := [], harness := (true, "6e679ea8d9b722efa1fe9bd0a58ec18ea01b5cc0c4205afa5697783e08763215"), looks := false }, kinds := [], alts := [], laidByText := true, laidKinds := [.data, .data, .data], laidTests := true, laidLooks := .later }
def StampBackCardSaid : Prop := Claim7.holds Tryd.pinned (.plain (OpenSpec.ofChange stampBackSpec)) stampBackCard

/-- THE SECOND FORM's CARD OF 'wampumlaw03.StampTexts'. -/
def stampTextsUptoCard : Claim7 := { stood := { row := stampTextsUptoRow, standIns := [], harness := (true, "6e679ea8d9b722efa1fe9bd0a58ec18ea01b5cc0c4205afa5697783e08763215"), looks := false }, kinds := [], alts := [], laidByText := true, laidKinds := [.data, .data, .data], laidTests := true, laidLooks := .later }
def StampTextsUptoCardSaid : Prop := Claim7.holds Tryd.pinned (.plain (OpenSpec.upto stampTextsSpec)) stampTextsUptoCard

/-- THE SECOND FORM's CARD OF 'wampumlaw03.StampPlus'. -/
def stampPlusUptoCard : Claim7 := { stood := { row := stampPlusUptoRow, standIns := [], harness := (true, "6e679ea8d9b722efa1fe9bd0a58ec18ea01b5cc0c4205afa5697783e08763215"), looks := false }, kinds := [], alts := [], laidByText := true, laidKinds := [.data, .data, .data], laidTests := true, laidLooks := .later }
def StampPlusUptoCardSaid : Prop := Claim7.holds Tryd.pinned (.plain (OpenSpec.upto stampPlusSpec)) stampPlusUptoCard

/-- THE SECOND FORM's CARD OF 'wampumlaw03.StampOrder'. -/
def stampOrderUptoCard : Claim7 := { stood := { row := stampOrderUptoRow, standIns := [], harness := (true, "6e679ea8d9b722efa1fe9bd0a58ec18ea01b5cc0c4205afa5697783e08763215"), looks := false }, kinds := [], alts := [], laidByText := true, laidKinds := [.data, .data, .data], laidTests := true, laidLooks := .later }
def StampOrderUptoCardSaid : Prop := Claim7.holds Tryd.pinned (.plain (OpenSpec.upto stampOrderSpec)) stampOrderUptoCard

/-- THE SECOND FORM's CARD OF 'wampumlaw03.StampTells'. -/
def stampTellsUptoCard : Claim7 := { stood := { row := stampTellsUptoRow, standIns := [], harness := (true, "6e679ea8d9b722efa1fe9bd0a58ec18ea01b5cc0c4205afa5697783e08763215"), looks := false }, kinds := [], alts := [], laidByText := true, laidKinds := [.data, .data, .data], laidTests := true, laidLooks := .later }
def StampTellsUptoCardSaid : Prop := Claim7.holds Tryd.pinned (.plain (OpenSpec.upto stampTellsSpec)) stampTellsUptoCard

/-- THE SECOND FORM's CARD OF 'wampumlaw03.StampBytes'. -/
def stampBytesUptoCard : Claim7 := { stood := { row := stampBytesUptoRow, standIns := [], harness := (true, "6e679ea8d9b722efa1fe9bd0a58ec18ea01b5cc0c4205afa5697783e08763215"), looks := false }, kinds := [], alts := [], laidByText := true, laidKinds := [.data, .data, .data], laidTests := true, laidLooks := .later }
def StampBytesUptoCardSaid : Prop := Claim7.holds Tryd.pinned (.plain (OpenSpec.upto stampBytesSpec)) stampBytesUptoCard

/-- THE SECOND FORM's CARD OF 'wampumlaw03.StampBack'. -/
def stampBackUptoCard : Claim7 := { stood := { row := stampBackUptoRow, standIns := [], harness := (true, "6e679ea8d9b722efa1fe9bd0a58ec18ea01b5cc0c4205afa5697783e08763215"), looks := false }, kinds := [], alts := [], laidByText := true, laidKinds := [.data, .data, .data], laidTests := true, laidLooks := .later }
def StampBackUptoCardSaid : Prop := Claim7.holds Tryd.pinned (.plain (OpenSpec.upto stampBackSpec)) stampBackUptoCard
end Rows
end Go.Proofs.YtbpfojlnndkaoaaDoor
