/-
  DERIVED. GIVEN WITH THE SEED: THE CARDS: each row of YteaflmalcclnoaaGreatDoorRows.lean that lists a variable, with what it lists TIED to the program's text (the seventh form; the later family's looks); each row that meets fmt, with fmt's text TOLD by the authors' own Lean function (tested against real Go, not proved from fmt's source: count such statements apart). THE CARD IS WHAT COUNTS. Prove the row's statement (the work); the ties are given (YteaflmalcclnoaaGreatDoorTie.lean); close each card by the builder's one call (the guide's Derived/Test/ToyasCard.lean, 'card_holds'). Laid BY PROGRAM, IN A SANDBOX (cutbox-door.mjs). By AI agents, Wed Nov 11 2026. No macro, syntax, notation, axiom, sorry.
-/
import Derived.Test.YteaflmalcclnoaaGreatDoorRows
import GoSem.ClaimSeven
namespace Go.Proofs.YteaflmalcclnoaaGreatDoor
namespace Rows

/-- THE TIED CARD OF 'tstatetop.TopDumps'. -/
def topDumpsCard : Claim7 := { stood := { row := topDumpsRow, standIns := [], harness := (true, "16e8eda205b6bba9c49a4c0aa56507a6f3d3e4e7baa564682ec1f65159489a46"), looks := false }, kinds := [], alts := [], laidByText := true, laidKinds := [.data, .pinned], laidTests := true, laidLooks := .later }
def TopDumpsCardSaid : Prop := Claim7.holds Tryz.pinned (.plain (OpenSpec.ofChange topDumpsSpec)) topDumpsCard

/-- THE TIED CARD OF 'tstatetop.TopListings'. -/
def topListingsCard : Claim7 := { stood := { row := topListingsRow, standIns := [], harness := (true, "16e8eda205b6bba9c49a4c0aa56507a6f3d3e4e7baa564682ec1f65159489a46"), looks := false }, kinds := [], alts := [], laidByText := true, laidKinds := [.data, .pinned], laidTests := true, laidLooks := .later }
def TopListingsCardSaid : Prop := Claim7.holds Tryz.pinned (.plain (OpenSpec.ofChange topListingsSpec)) topListingsCard

/-- THE SECOND FORM's CARD OF 'tstatetop.TopDumps'. -/
def topDumpsUptoCard : Claim7 := { stood := { row := topDumpsUptoRow, standIns := [], harness := (true, "16e8eda205b6bba9c49a4c0aa56507a6f3d3e4e7baa564682ec1f65159489a46"), looks := false }, kinds := [], alts := [], laidByText := true, laidKinds := [.data, .pinned], laidTests := true, laidLooks := .later }
def TopDumpsUptoCardSaid : Prop := Claim7.holds Tryz.pinned (.plain (OpenSpec.upto topDumpsSpec)) topDumpsUptoCard

/-- THE SECOND FORM's CARD OF 'tstatetop.TopListings'. -/
def topListingsUptoCard : Claim7 := { stood := { row := topListingsUptoRow, standIns := [], harness := (true, "16e8eda205b6bba9c49a4c0aa56507a6f3d3e4e7baa564682ec1f65159489a46"), looks := false }, kinds := [], alts := [], laidByText := true, laidKinds := [.data, .pinned], laidTests := true, laidLooks := .later }
def TopListingsUptoCardSaid : Prop := Claim7.holds Tryz.pinned (.plain (OpenSpec.upto topListingsSpec)) topListingsUptoCard
end Rows
end Go.Proofs.YteaflmalcclnoaaGreatDoor
