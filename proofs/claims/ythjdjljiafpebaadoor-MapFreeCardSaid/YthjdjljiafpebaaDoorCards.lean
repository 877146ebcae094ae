/-
  DERIVED. GIVEN WITH THE SEED: THE CARDS: each row of YthjdjljiafpebaaDoorRows.lean that lists a variable, with what it lists TIED to the program's text (the seventh form; the later family's looks); each row that meets fmt, with fmt's text TOLD by the authors' own Lean function (tested against real Go, not proved from fmt's source: count such statements apart). THE CARD IS WHAT COUNTS. Prove the row's statement (the work); the ties are given (YthjdjljiafpebaaDoorTie.lean); close each card by the builder's one call (the guide's Derived/Test/ToyasCard.lean, 'card_holds'). Laid BY PROGRAM, IN A SANDBOX (cutbox-door.mjs). By AI agents, Wed Nov 11 2026. No macro, syntax, notation, axiom, sorry.
-/
import Derived.Test.YthjdjljiafpebaaDoorRows
import GoSem.ClaimSeven
namespace Go.Proofs.YthjdjljiafpebaaDoor
namespace Rows

/-- THE TIED CARD OF 'mooringslaw09.MapFree'. -/
def mapFreeCard : Claim7 := { stood := { row := mapFreeRow, standIns := [], harness := (true, "9803489f52d59e18b2230ba414d5641aa3ebcdf796c85dcb3ec04e1208348e0b"), looks := false }, kinds := [], alts := [], laidByText := true, laidKinds := [.data, .data], laidTests := true, laidLooks := .later }
def MapFreeCardSaid : Prop := Claim7.holds Tryd.pinned (.plain (OpenSpec.ofChange mapFreeSpec)) mapFreeCard

/-- THE TIED CARD OF 'mooringslaw09.MapFills'. -/
def mapFillsCard : Claim7 := { stood := { row := mapFillsRow, standIns := [], harness := (true, "9803489f52d59e18b2230ba414d5641aa3ebcdf796c85dcb3ec04e1208348e0b"), looks := false }, kinds := [], alts := [], laidByText := true, laidKinds := [.data, .data], laidTests := true, laidLooks := .later }
def MapFillsCardSaid : Prop := Claim7.holds Tryd.pinned (.plain (OpenSpec.ofChange mapFillsSpec)) mapFillsCard

/-- THE TIED CARD OF 'mooringslaw09.MapOrder'. -/
def mapOrderCard : Claim7 := { stood := { row := mapOrderRow, standIns := [], harness := (true, "9803489f52d59e18b2230ba414d5641aa3ebcdf796c85dcb3ec04e1208348e0b"), looks := false }, kinds := [], alts := [], laidByText := true, laidKinds := [.data, .data], laidTests := true, laidLooks := .later }
def MapOrderCardSaid : Prop := Claim7.holds Tryd.pinned (.plain (OpenSpec.ofChange mapOrderSpec)) mapOrderCard

/-- THE TIED CARD OF 'mooringslaw09.MapTells'. -/
def mapTellsCard : Claim7 := { stood := { row := mapTellsRow, standIns := [], harness := (true, "9803489f52d59e18b2230ba414d5641aa3ebcdf796c85dcb3ec04e1208348e0b"), looks := false }, kinds := [], alts := [], laidByText := true, laidKinds := [.data, .data], laidTests := true, laidLooks := .later }
def MapTellsCardSaid : Prop := Claim7.holds Tryd.pinned (.plain (OpenSpec.ofChange mapTellsSpec)) mapTellsCard

/-- THE TIED CARD OF 'mooringslaw09.MapBack'. -/
def mapBackCard : Claim7 := { stood := { row := mapBackRow, standIns := [], harness := (true, "9803489f52d59e18b2230ba414d5641aa3ebcdf796c85dcb3ec04e1208348e0b"), looks := false }, kinds := [], alts := [], laidByText := true, laidKinds := [.data, .data], laidTests := true, laidLooks := .later }
def MapBackCardSaid : Prop := Claim7.holds Tryd.pinned (.plain (OpenSpec.ofChange mapBackSpec)) mapBackCard

/-- THE TIED CARD OF 'mooringslaw09.MapGives'. -/
def mapGivesCard : Claim7 := { stood := { row := mapGivesRow, standIns := [], harness := (true, "9803489f52d59e18b2230ba414d5641aa3ebcdf796c85dcb3ec04e1208348e0b"), looks := false }, kinds := [], alts := [], laidByText := true, laidKinds := [.data, .data], laidTests := true, laidLooks := .later }
def MapGivesCardSaid : Prop := Claim7.holds Tryd.pinned (.plain (OpenSpec.ofChange mapGivesSpec)) mapGivesCard

/-- THE SECOND FORM's CARD OF 'mooringslaw09.MapFree'. -/
def mapFreeUptoCard : Claim7 := { stood := { row := mapFreeUptoRow, standIns := [], harness := (true, "9803489f52d59e18b2230ba414d5641aa3ebcdf796c85dcb3ec04e1208348e0b"), looks := false }, kinds := [], alts := [], laidByText := true, laidKinds := [.data, .data], laidTests := true, laidLooks := .later }
def MapFreeUptoCardSaid : Prop := Claim7.holds Tryd.pinned (.plain (OpenSpec.upto mapFreeSpec)) mapFreeUptoCard

/-- THE SECOND FORM's CARD OF 'mooringslaw09.MapFills'. -/
def mapFillsUptoCard : Claim7 := { stood := { row := mapFillsUptoRow, standIns := [], harness := (true, "9803489f52d59e18b2230ba414d5641aa3ebcdf796c85dcb3ec04e1208348e0b"), looks := false }, kinds := [], alts := [], laidByText := true, laidKinds := [.data, .data], laidTests := true, laidLooks := .later }
def MapFillsUptoCardSaid : Prop := Claim7.holds Tryd.pinned (.plain (OpenSpec.upto mapFillsSpec)) mapFillsUptoCard

/-- THE SECOND FORM's CARD OF 'mooringslaw09.MapOrder'. -/
def mapOrderUptoCard : Claim7 := { stood := { row := mapOrderUptoRow, standIns := [], harness := (true, "9803489f52d59e18b2230ba414d5641aa3ebcdf796c85dcb3ec04e1208348e0b"), looks := false }, kinds := [], alts := [], laidByText := true, laidKinds := [.data, .data], laidTests := true, laidLooks := .later }
def MapOrderUptoCardSaid : Prop := Claim7.holds Tryd.pinned (.plain (OpenSpec.upto mapOrderSpec)) mapOrderUptoCard

/-- THE SECOND FORM's CARD OF 'mooringslaw09.MapTells'. -/
def mapTellsUptoCard : Claim7 := { stood := { row := mapTellsUptoRow, standIns := [], harness := (true, "9803489f52d59e18b2230ba414d5641aa3ebcdf796c85dcb3ec04e1208348e0b"), looks := false }, kinds := [], alts := [], laidByText := true, laidKinds := [.data, .data], laidTests := true, laidLooks := .later }
def MapTellsUptoCardSaid : Prop := Claim7.holds Tryd.pinned (.plain (OpenSpec.upto mapTellsSpec)) mapTellsUptoCard

/-- THE SECOND FORM's CARD OF 'mooringslaw09.MapBack'. -/
def mapBackUptoCard : Claim7 := { stood := { row := mapBackUptoRow, standIns := [], harness := (true, "9803489f52d59e18b2230ba414d5641aa3ebcdf796c85dcb3ec04e1208348e0b"), looks := false }, kinds := [], alts := [], laidByText := true, laidKinds := [.data, .data], laidTests := true, laidLooks := .later }
def MapBackUptoCardSaid : Prop := Claim7.holds Tryd.pinned (.plain (OpenSpec.upto mapBackSpec)) mapBackUptoCard

/-- THE SECOND FORM's CARD OF 'mooringslaw09.MapGives'. -/
def mapGivesUptoCard : Claim7 := { stood := { row := mapGivesUptoRow, standIns := [], harness := (true, "9803489f52d59e18b2230ba414d5641aa3ebcdf796c85dcb3ec04e1208348e0b"), looks := false }, kinds := [], alts := [], laidByText := true, laidKinds := [.data, .data], laidTests := true, laidLooks := .later }
def MapGivesUptoCardSaid : Prop := Claim7.holds Tryd.pinned (.plain (OpenSpec.upto mapGivesSpec)) mapGivesUptoCard
end Rows
end Go.Proofs.YthjdjljiafpebaaDoor
