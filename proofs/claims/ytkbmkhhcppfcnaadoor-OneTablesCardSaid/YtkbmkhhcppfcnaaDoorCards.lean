/-
  DERIVED. GIVEN WITH THE SEED: THE CARDS: each row of YtkbmkhhcppfcnaaDoorRows.lean that lists a variable, with what it lists TIED to the program's text (the seventh form; the later family's looks); each row that meets fmt, with fmt's text TOLD by the authors' own Lean function (tested against real Go, not proved from fmt's source: count such statements apart). THE CARD IS WHAT COUNTS. Prove the row's statement (the work); the ties are given (YtkbmkhhcppfcnaaDoorTie.lean); close each card by the builder's one call (the guide's Derived/Test/ToyasCard.lean, 'card_holds'). Laid BY PROGRAM, IN A SANDBOX (cutbox-door.mjs). By AI agents, Wed Nov 11 2026. No macro, syntax, notation, axiom, sorry.
-/
import Derived.Test.YtkbmkhhcppfcnaaDoorRows
import GoSem.ClaimSeven
namespace Go.Proofs.YtkbmkhhcppfcnaaDoor
namespace Rows

/-- THE TIED CARD OF 'roadsteadlaw14.ThreeEncodes'. -/
def threeEncodesCard : Claim7 := { stood := { row := threeEncodesRow, standIns := [], harness := (true, "c344cef29973ce74781b08f778631cd019e13a0ada52e0b1ea8bb5c5fdf00256"), looks := true }, kinds := [], alts := [], laidByText := true, laidKinds := [.data, .data, .data, .sentinel, .sentinel], laidTests := true, laidLooks := .later }
def ThreeEncodesCardSaid : Prop := Claim7.holds Tryd.pinned (.plain (OpenSpec.ofChange threeEncodesSpec)) threeEncodesCard

/-- THE TIED CARD OF 'roadsteadlaw14.ThreeBack'. -/
def threeBackCard : Claim7 := { stood := { row := threeBackRow, standIns := [], harness := (true, "c344cef29973ce74781b08f778631cd019e13a0ada52e0b1ea8bb5c5fdf00256"), looks := true }, kinds := [], alts := [], laidByText := true, laidKinds := [.data, .data, .data, .sentinel, .sentinel], laidTests := true, laidLooks := .later }
def ThreeBackCardSaid : Prop := Claim7.holds Tryd.pinned (.plain (OpenSpec.ofChange threeBackSpec)) threeBackCard

/-- THE TIED CARD OF 'roadsteadlaw14.ThreeKeys'. -/
def threeKeysCard : Claim7 := { stood := { row := threeKeysRow, standIns := [], harness := (true, "c344cef29973ce74781b08f778631cd019e13a0ada52e0b1ea8bb5c5fdf00256"), looks := true }, kinds := [], alts := [], laidByText := true, laidKinds := [.data, .data, .data, .sentinel, .sentinel], laidTests := true, laidLooks := .later }
def ThreeKeysCardSaid : Prop := Claim7.holds Tryd.pinned (.plain (OpenSpec.ofChange threeKeysSpec)) threeKeysCard

/-- THE TIED CARD OF 'roadsteadlaw12.OneEncodes'. -/
def oneEncodesCard : Claim7 := { stood := { row := oneEncodesRow, standIns := [], harness := (true, "c344cef29973ce74781b08f778631cd019e13a0ada52e0b1ea8bb5c5fdf00256"), looks := true }, kinds := [], alts := [], laidByText := true, laidKinds := [.data, .data, .data, .sentinel, .sentinel], laidTests := true, laidLooks := .later }
def OneEncodesCardSaid : Prop := Claim7.holds Tryd.pinned (.plain (OpenSpec.ofChange oneEncodesSpec)) oneEncodesCard

/-- THE TIED CARD OF 'roadsteadlaw12.OneBack'. -/
def oneBackCard : Claim7 := { stood := { row := oneBackRow, standIns := [], harness := (true, "c344cef29973ce74781b08f778631cd019e13a0ada52e0b1ea8bb5c5fdf00256"), looks := true }, kinds := [], alts := [], laidByText := true, laidKinds := [.data, .data, .data, .sentinel, .sentinel], laidTests := true, laidLooks := .later }
def OneBackCardSaid : Prop := Claim7.holds Tryd.pinned (.plain (OpenSpec.ofChange oneBackSpec)) oneBackCard

/-- THE TIED CARD OF 'roadsteadlaw12.OneKeys'. -/
def oneKeysCard : Claim7 := { stood := { row := oneKeysRow, standIns := [], harness := (true, "c344cef29973ce74781b08f778631cd019e13a0ada52e0b1ea8bb5c5fdf00256"), looks := true }, kinds := [], alts := [], laidByText := true, laidKinds := [.data, .data, .data, .sentinel, .sentinel], laidTests := true, laidLooks := .later }
def OneKeysCardSaid : Prop := Claim7.holds Tryd.pinned (.plain (OpenSpec.ofChange oneKeysSpec)) oneKeysCard

/-- THE TIED CARD OF 'roadsteadlaw12.OneTables'. -/
def oneTablesCard : Claim7 := { stood := { row := oneTablesRow, standIns := [], harness := (true, "c344cef29973ce74781b08f778631cd019e13a0ada52e0b1ea8bb5c5fdf00256"), looks := true }, kinds := [], alts := [], laidByText := true, laidKinds := [.data, .data, .data, .sentinel, .sentinel], laidTests := true, laidLooks := .later }
def OneTablesCardSaid : Prop := Claim7.holds Tryd.pinned (.plain (OpenSpec.ofChange oneTablesSpec)) oneTablesCard

/-- THE TIED CARD OF 'roadsteadlaw13.TwoBack'. -/
def twoBackCard : Claim7 := { stood := { row := twoBackRow, standIns := [], harness := (true, "c344cef29973ce74781b08f778631cd019e13a0ada52e0b1ea8bb5c5fdf00256"), looks := true }, kinds := [], alts := [], laidByText := true, laidKinds := [.data, .data, .data, .sentinel, .sentinel], laidTests := true, laidLooks := .later }
def TwoBackCardSaid : Prop := Claim7.holds Tryd.pinned (.plain (OpenSpec.ofChange twoBackSpec)) twoBackCard

/-- THE TIED CARD OF 'roadsteadlaw13.TwoKeys'. -/
def twoKeysCard : Claim7 := { stood := { row := twoKeysRow, standIns := [], harness := (true, "c344cef29973ce74781b08f778631cd019e13a0ada52e0b1ea8bb5c5fdf00256"), looks := true }, kinds := [], alts := [], laidByText := true, laidKinds := [.data, .data, .data, .sentinel, .sentinel], laidTests := true, laidLooks := .later }
def TwoKeysCardSaid : Prop := Claim7.holds Tryd.pinned (.plain (OpenSpec.ofChange twoKeysSpec)) twoKeysCard

/-- THE TIED CARD OF 'roadsteadlaw13.TwoGaps'. -/
def twoGapsCard : Claim7 := { stood := { row := twoGapsRow, standIns := [], harness := (true, "c344cef29973ce74781b08f778631cd019e13a0ada52e0b1ea8bb5c5fdf00256"), looks := true }, kinds := [], alts := [], laidByText := true, laidKinds := [.data, .data, .data, .sentinel, .sentinel], laidTests := true, laidLooks := .later }
def TwoGapsCardSaid : Prop := Claim7.holds Tryd.pinned (.plain (OpenSpec.ofChange twoGapsSpec)) twoGapsCard

/-- THE SECOND FORM's CARD OF 'roadsteadlaw14.ThreeEncodes'. -/
def threeEncodesUptoCard : Claim7 := { stood := { row := threeEncodesUptoRow, standIns := [], harness := (true, "c344cef29973ce74781b08f778631cd019e13a0ada52e0b1ea8bb5c5fdf00256"), looks := true }, kinds := [], alts := [], laidByText := true, laidKinds := [.data, .data, .data, .sentinel, .sentinel], laidTests := true, laidLooks := .later }
def ThreeEncodesUptoCardSaid : Prop := Claim7.holds Tryd.pinned (.plain (OpenSpec.upto threeEncodesSpec)) threeEncodesUptoCard

/-- THE SECOND FORM's CARD OF 'roadsteadlaw14.ThreeBack'. -/
def threeBackUptoCard : Claim7 := { stood := { row := threeBackUptoRow, standIns := [], harness := (true, "c344cef29973ce74781b08f778631cd019e13a0ada52e0b1ea8bb5c5fdf00256"), looks := true }, kinds := [], alts := [], laidByText := true, laidKinds := [.data, .data, .data, .sentinel, .sentinel], laidTests := true, laidLooks := .later }
def ThreeBackUptoCardSaid : Prop := Claim7.holds Tryd.pinned (.plain (OpenSpec.upto threeBackSpec)) threeBackUptoCard

/-- THE SECOND FORM's CARD OF 'roadsteadlaw14.ThreeKeys'. -/
def threeKeysUptoCard : Claim7 := { stood := { row := threeKeysUptoRow, standIns := [], harness := (true, "c344cef29973ce74781b08f778631cd019e13a0ada52e0b1ea8bb5c5fdf00256"), looks := true }, kinds := [], alts := [], laidByText := true, laidKinds := [.data, .data, .data, .sentinel, .sentinel], laidTests := true, laidLooks := .later }
def ThreeKeysUptoCardSaid : Prop := Claim7.holds Tryd.pinned (.plain (OpenSpec.upto threeKeysSpec)) threeKeysUptoCard

/-- THE SECOND FORM's CARD OF 'roadsteadlaw12.OneEncodes'. -/
def oneEncodesUptoCard : Claim7 := { stood := { row := oneEncodesUptoRow, standIns := [], harness := (true, "c344cef29973ce74781b08f778631cd019e13a0ada52e0b1ea8bb5c5fdf00256"), looks := true }, kinds := [], alts := [], laidByText := true, laidKinds := [.data, .data, .data, .sentinel, .sentinel], laidTests := true, laidLooks := .later }
def OneEncodesUptoCardSaid : Prop := Claim7.holds Tryd.pinned (.plain (OpenSpec.upto oneEncodesSpec)) oneEncodesUptoCard

/-- THE SECOND FORM's CARD OF 'roadsteadlaw12.OneBack'. -/
def oneBackUptoCard : Claim7 := { stood := { row := oneBackUptoRow, standIns := [], harness := (true, "c344cef29973ce74781b08f778631cd019e13a0ada52e0b1ea8bb5c5fdf00256"), looks := true }, kinds := [], alts := [], laidByText := true, laidKinds := [.data, .data, .data, .sentinel, .sentinel], laidTests := true, laidLooks := .later }
def OneBackUptoCardSaid : Prop := Claim7.holds Tryd.pinned (.plain (OpenSpec.upto oneBackSpec)) oneBackUptoCard

/-- THE SECOND FORM's CARD OF 'roadsteadlaw12.OneKeys'. -/
def oneKeysUptoCard : Claim7 := { stood := { row := oneKeysUptoRow, standIns := [], harness := (true, "c344cef29973ce74781b08f778631cd019e13a0ada52e0b1ea8bb5c5fdf00256"), looks := true }, kinds := [], alts := [], laidByText := true, laidKinds := [.data, .data, .data, .sentinel, .sentinel], laidTests := true, laidLooks := .later }
def OneKeysUptoCardSaid : Prop := Claim7.holds Tryd.pinned (.plain (OpenSpec.upto oneKeysSpec)) oneKeysUptoCard

/-- THE SECOND FORM's CARD OF 'roadsteadlaw12.OneTables'. -/
def oneTablesUptoCard : Claim7 := { stood := { row := oneTablesUptoRow, standIns := [], harness := (true, "c344cef29973ce74781b08f778631cd019e13a0ada52e0b1ea8bb5c5fdf00256"), looks := true }, kinds := [], alts := [], laidByText := true, laidKinds := [.data, .data, .data, .sentinel, .sentinel], laidTests := true, laidLooks := .later }
def OneTablesUptoCardSaid : Prop := Claim7.holds Tryd.pinned (.plain (OpenSpec.upto oneTablesSpec)) oneTablesUptoCard

/-- THE SECOND FORM's CARD OF 'roadsteadlaw13.TwoBack'. -/
def twoBackUptoCard : Claim7 := { stood := { row := twoBackUptoRow, standIns := [], harness := (true, "c344cef29973ce74781b08f778631cd019e13a0ada52e0b1ea8bb5c5fdf00256"), looks := true }, kinds := [], alts := [], laidByText := true, laidKinds := [.data, .data, .data, .sentinel, .sentinel], laidTests := true, laidLooks := .later }
def TwoBackUptoCardSaid : Prop := Claim7.holds Tryd.pinned (.plain (OpenSpec.upto twoBackSpec)) twoBackUptoCard

/-- THE SECOND FORM's CARD OF 'roadsteadlaw13.TwoKeys'. -/
def twoKeysUptoCard : Claim7 := { stood := { row := twoKeysUptoRow, standIns := [], harness := (true, "c344cef29973ce74781b08f778631cd019e13a0ada52e0b1ea8bb5c5fdf00256"), looks := true }, kinds := [], alts := [], laidByText := true, laidKinds := [.data, .data, .data, .sentinel, .sentinel], laidTests := true, laidLooks := .later }
def TwoKeysUptoCardSaid : Prop := Claim7.holds Tryd.pinned (.plain (OpenSpec.upto twoKeysSpec)) twoKeysUptoCard

/-- THE SECOND FORM's CARD OF 'roadsteadlaw13.TwoGaps'. -/
def twoGapsUptoCard : Claim7 := { stood := { row := twoGapsUptoRow, standIns := [], harness := (true, "c344cef29973ce74781b08f778631cd019e13a0ada52e0b1ea8bb5c5fdf00256"), looks := true }, kinds := [], alts := [], laidByText := true, laidKinds := [.data, .data, .data, .sentinel, .sentinel], laidTests := true, laidLooks := .later }
def TwoGapsUptoCardSaid : Prop := Claim7.holds Tryd.pinned (.plain (OpenSpec.upto twoGapsSpec)) twoGapsUptoCard
end Rows
end Go.Proofs.YtkbmkhhcppfcnaaDoor
