/-
  DERIVED. GIVEN WITH THE SEED: THE CARDS: each row of YtjcikceophcooaaDoorRows.lean that lists a variable, with what it lists TIED to the program's text (the seventh form; the later family's looks); each row that meets fmt, with fmt's text TOLD by the authors' own Lean function (tested against real Go, not proved from fmt's source: count such statements apart). THE CARD IS WHAT COUNTS. Prove the row's statement (the work); the ties are given (YtjcikceophcooaaDoorTie.lean); close each card by the builder's one call (the guide's Derived/Test/ToyasCard.lean, 'card_holds'). Laid BY PROGRAM, IN A SANDBOX (cutbox-door.mjs). By AI agents, Wed Nov 11 2026. No macro, syntax, notation, axiom, sorry.
-/
import Derived.Test.YtjcikceophcooaaDoorRows
import GoSem.ClaimSeven
namespace Go.Proofs.YtjcikceophcooaaDoor
namespace Rows

/-- THE TIED CARD OF 'roadsteadlaw22.GateQuotes'. -/
def gateQuotesCard : Claim7 := { stood := { row := gateQuotesRow, standIns := [], harness := (true, "8d8079ec6f68ba3660e2aaae06f833dbcdf7d2b354d9083897cc6e223601f507"), looks := true }, kinds := [], alts := [], laidByText := true, laidKinds := [.data, .data, .data, .data, .sentinel, .sentinel, .pinned], laidTests := true, laidLooks := .later }
def GateQuotesCardSaid : Prop := Claim7.holds Tryd.pinned (.plain (OpenSpec.ofChange gateQuotesSpec)) gateQuotesCard

/-- THE TIED CARD OF 'roadsteadlaw22.GateShows'. -/
def gateShowsCard : Claim7 := { stood := { row := gateShowsRow, standIns := [], harness := (true, "8d8079ec6f68ba3660e2aaae06f833dbcdf7d2b354d9083897cc6e223601f507"), looks := true }, kinds := [], alts := [], laidByText := true, laidKinds := [.data, .data, .data, .data, .sentinel, .sentinel, .pinned], laidTests := true, laidLooks := .later }
def GateShowsCardSaid : Prop := Claim7.holds Tryd.pinned (.plain (OpenSpec.ofChange gateShowsSpec)) gateShowsCard

/-- THE TIED CARD OF 'roadsteadlaw22.GateParses'. -/
def gateParsesCard : Claim7 := { stood := { row := gateParsesRow, standIns := [], harness := (true, "8d8079ec6f68ba3660e2aaae06f833dbcdf7d2b354d9083897cc6e223601f507"), looks := true }, kinds := [], alts := [], laidByText := true, laidKinds := [.data, .data, .data, .data, .sentinel, .sentinel, .pinned], laidTests := true, laidLooks := .later }
def GateParsesCardSaid : Prop := Claim7.holds Tryd.pinned (.plain (OpenSpec.ofChange gateParsesSpec)) gateParsesCard

/-- THE TIED CARD OF 'roadsteadlaw22.GateBack'. -/
def gateBackCard : Claim7 := { stood := { row := gateBackRow, standIns := [], harness := (true, "8d8079ec6f68ba3660e2aaae06f833dbcdf7d2b354d9083897cc6e223601f507"), looks := true }, kinds := [], alts := [], laidByText := true, laidKinds := [.data, .data, .data, .data, .sentinel, .sentinel, .pinned], laidTests := true, laidLooks := .later }
def GateBackCardSaid : Prop := Claim7.holds Tryd.pinned (.plain (OpenSpec.ofChange gateBackSpec)) gateBackCard

/-- THE TIED CARD OF 'roadsteadlaw22.GateKinds'. -/
def gateKindsCard : Claim7 := { stood := { row := gateKindsRow, standIns := [], harness := (true, "8d8079ec6f68ba3660e2aaae06f833dbcdf7d2b354d9083897cc6e223601f507"), looks := true }, kinds := [], alts := [], laidByText := true, laidKinds := [.data, .data, .data, .data, .sentinel, .sentinel, .pinned], laidTests := true, laidLooks := .later }
def GateKindsCardSaid : Prop := Claim7.holds Tryd.pinned (.plain (OpenSpec.ofChange gateKindsSpec)) gateKindsCard

/-- THE SECOND FORM's CARD OF 'roadsteadlaw22.GateQuotes'. -/
def gateQuotesUptoCard : Claim7 := { stood := { row := gateQuotesUptoRow, standIns := [], harness := (true, "8d8079ec6f68ba3660e2aaae06f833dbcdf7d2b354d9083897cc6e223601f507"), looks := true }, kinds := [], alts := [], laidByText := true, laidKinds := [.data, .data, .data, .data, .sentinel, .sentinel, .pinned], laidTests := true, laidLooks := .later }
def GateQuotesUptoCardSaid : Prop := Claim7.holds Tryd.pinned (.plain (OpenSpec.upto gateQuotesSpec)) gateQuotesUptoCard

/-- THE SECOND FORM's CARD OF 'roadsteadlaw22.GateShows'. -/
def gateShowsUptoCard : Claim7 := { stood := { row := gateShowsUptoRow, standIns := [], harness := (true, "8d8079ec6f68ba3660e2aaae06f833dbcdf7d2b354d9083897cc6e223601f507"), looks := true }, kinds := [], alts := [], laidByText := true, laidKinds := [.data, .data, .data, .data, .sentinel, .sentinel, .pinned], laidTests := true, laidLooks := .later }
def GateShowsUptoCardSaid : Prop := Claim7.holds Tryd.pinned (.plain (OpenSpec.upto gateShowsSpec)) gateShowsUptoCard

/-- THE SECOND FORM's CARD OF 'roadsteadlaw22.GateParses'. -/
def gateParsesUptoCard : Claim7 := { stood := { row := gateParsesUptoRow, standIns := [], harness := (true, "8d8079ec6f68ba3660e2aaae06f833dbcdf7d2b354d9083897cc6e223601f507"), looks := true }, kinds := [], alts := [], laidByText := true, laidKinds := [.data, .data, .data, .data, .sentinel, .sentinel, .pinned], laidTests := true, laidLooks := .later }
def GateParsesUptoCardSaid : Prop := Claim7.holds Tryd.pinned (.plain (OpenSpec.upto gateParsesSpec)) gateParsesUptoCard

/-- THE SECOND FORM's CARD OF 'roadsteadlaw22.GateBack'. -/
def gateBackUptoCard : Claim7 := { stood := { row := gateBackUptoRow, standIns := [], harness := (true, "8d8079ec6f68ba3660e2aaae06f833dbcdf7d2b354d9083897cc6e223601f507"), looks := true }, kinds := [], alts := [], laidByText := true, laidKinds := [.data, .data, .data, .data, .sentinel, .sentinel, .pinned], laidTests := true, laidLooks := .later }
def GateBackUptoCardSaid : Prop := Claim7.holds Tryd.pinned (.plain (OpenSpec.upto gateBackSpec)) gateBackUptoCard

/-- THE SECOND FORM's CARD OF 'roadsteadlaw22.GateKinds'. -/
def gateKindsUptoCard : Claim7 := { stood := { row := gateKindsUptoRow, standIns := [], harness := (true, "8d8079ec6f68ba3660e2aaae06f833dbcdf7d2b354d9083897cc6e223601f507"), looks := true }, kinds := [], alts := [], laidByText := true, laidKinds := [.data, .data, .data, .data, .sentinel, .sentinel, .pinned], laidTests := true, laidLooks := .later }
def GateKindsUptoCardSaid : Prop := Claim7.holds Tryd.pinned (.plain (OpenSpec.upto gateKindsSpec)) gateKindsUptoCard
end Rows
end Go.Proofs.YtjcikceophcooaaDoor
