/-
  DERIVED. GIVEN WITH THE SEED: THE CARDS: each row of YtkbmkhhcppfcnaaGreatDoorRows.lean that lists a variable, with what it lists TIED to the program's text (the seventh form; the later family's looks); each row that meets fmt, with fmt's text TOLD by the authors' own Lean function (tested against real Go, not proved from fmt's source: count such statements apart). THE CARD IS WHAT COUNTS. Prove the row's statement (the work); the ties are given (YtkbmkhhcppfcnaaGreatDoorTie.lean); close each card by the builder's one call (the guide's Derived/Test/ToyasCard.lean, 'card_holds'). Laid BY PROGRAM, IN A SANDBOX (cutbox-door.mjs). By AI agents, Wed Nov 11 2026. No macro, syntax, notation, axiom, sorry.
-/
import Derived.Test.YtkbmkhhcppfcnaaGreatDoorRows
import GoSem.ClaimSeven
namespace Go.Proofs.YtkbmkhhcppfcnaaGreatDoor
namespace Rows

/-- THE TIED CARD OF 'roadsteadlaw13.TwoEncodes'. -/
def twoEncodesCard : Claim7 := { stood := { row := twoEncodesRow, standIns := [], harness := (true, "de6feea143fe1e519e665d85dd4a430ad390ae0faa77c976dc21eb39db9f9678"), looks := true }, kinds := [], alts := [], laidByText := true, laidKinds := [.data, .data, .data, .sentinel, .sentinel], laidTests := true, laidLooks := .later }
def TwoEncodesCardSaid : Prop := Claim7.holds Tryz.pinned (.plain (OpenSpec.ofChange twoEncodesSpec)) twoEncodesCard

/-- THE TIED CARD OF 'roadsteadlaw14.ThreeAlike'. -/
def threeAlikeCard : Claim7 := { stood := { row := threeAlikeRow, standIns := [], harness := (true, "de6feea143fe1e519e665d85dd4a430ad390ae0faa77c976dc21eb39db9f9678"), looks := true }, kinds := [], alts := [], laidByText := true, laidKinds := [.data, .data, .data, .sentinel, .sentinel], laidTests := true, laidLooks := .later }
def ThreeAlikeCardSaid : Prop := Claim7.holds Tryz.pinned (.plain (OpenSpec.ofChange threeAlikeSpec)) threeAlikeCard

/-- THE TIED CARD OF 'roadsteadlaw14.ThreeApart'. -/
def threeApartCard : Claim7 := { stood := { row := threeApartRow, standIns := [], harness := (true, "de6feea143fe1e519e665d85dd4a430ad390ae0faa77c976dc21eb39db9f9678"), looks := true }, kinds := [], alts := [], laidByText := true, laidKinds := [.data, .data, .data, .sentinel, .sentinel], laidTests := true, laidLooks := .later }
def ThreeApartCardSaid : Prop := Claim7.holds Tryz.pinned (.plain (OpenSpec.ofChange threeApartSpec)) threeApartCard

/-- THE SECOND FORM's CARD OF 'roadsteadlaw13.TwoEncodes'. -/
def twoEncodesUptoCard : Claim7 := { stood := { row := twoEncodesUptoRow, standIns := [], harness := (true, "de6feea143fe1e519e665d85dd4a430ad390ae0faa77c976dc21eb39db9f9678"), looks := true }, kinds := [], alts := [], laidByText := true, laidKinds := [.data, .data, .data, .sentinel, .sentinel], laidTests := true, laidLooks := .later }
def TwoEncodesUptoCardSaid : Prop := Claim7.holds Tryz.pinned (.plain (OpenSpec.upto twoEncodesSpec)) twoEncodesUptoCard

/-- THE SECOND FORM's CARD OF 'roadsteadlaw14.ThreeAlike'. -/
def threeAlikeUptoCard : Claim7 := { stood := { row := threeAlikeUptoRow, standIns := [], harness := (true, "de6feea143fe1e519e665d85dd4a430ad390ae0faa77c976dc21eb39db9f9678"), looks := true }, kinds := [], alts := [], laidByText := true, laidKinds := [.data, .data, .data, .sentinel, .sentinel], laidTests := true, laidLooks := .later }
def ThreeAlikeUptoCardSaid : Prop := Claim7.holds Tryz.pinned (.plain (OpenSpec.upto threeAlikeSpec)) threeAlikeUptoCard

/-- THE SECOND FORM's CARD OF 'roadsteadlaw14.ThreeApart'. -/
def threeApartUptoCard : Claim7 := { stood := { row := threeApartUptoRow, standIns := [], harness := (true, "de6feea143fe1e519e665d85dd4a430ad390ae0faa77c976dc21eb39db9f9678"), looks := true }, kinds := [], alts := [], laidByText := true, laidKinds := [.data, .data, .data, .sentinel, .sentinel], laidTests := true, laidLooks := .later }
def ThreeApartUptoCardSaid : Prop := Claim7.holds Tryz.pinned (.plain (OpenSpec.upto threeApartSpec)) threeApartUptoCard
end Rows
end Go.Proofs.YtkbmkhhcppfcnaaGreatDoor
