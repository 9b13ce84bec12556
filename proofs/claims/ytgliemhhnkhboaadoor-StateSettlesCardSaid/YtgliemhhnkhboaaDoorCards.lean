/-
  DERIVED. GIVEN WITH THE SEED: THE CARDS: each row of YtgliemhhnkhboaaDoorRows.lean that lists a variable, with what it lists TIED to the program's text (the seventh form; the later family's looks); each row that meets fmt, with fmt's text TOLD by the authors' own Lean function (tested against real Go, not proved from fmt's source: count such statements apart). THE CARD IS WHAT COUNTS. Prove the row's statement (the work); the ties are given (YtgliemhhnkhboaaDoorTie.lean); close each card by the builder's one call (the guide's Derived/Test/ToyasCard.lean, 'card_holds'). Laid BY PROGRAM, IN A SANDBOX (cutbox-door.mjs). By AI agents, Wed Nov 11 2026. No macro, syntax, notation, axiom, sorry.
-/
import Derived.Test.YtgliemhhnkhboaaDoorRows
import GoSem.ClaimSeven
namespace Go.Proofs.YtgliemhhnkhboaaDoor
namespace Rows

/-- THE TIED CARD OF 'roadsteadlaw10.StateKeyed'. -/
def stateKeyedCard : Claim7 := { stood := { row := stateKeyedRow, standIns := [], harness := (true, "d19baa5036c1284cba46882a1713de6fe92e2f86ce112b46133393f49ebb9f69"), looks := true }, kinds := [], alts := [], laidByText := true, laidKinds := [.data, .data, .data, .data, .sentinel, .sentinel, .pinned], laidTests := true, laidLooks := .later }
def StateKeyedCardSaid : Prop := Claim7.holds Tryd.pinned (.plain (OpenSpec.ofChange stateKeyedSpec)) stateKeyedCard

/-- THE TIED CARD OF 'roadsteadlaw10.StateSettles'. -/
def stateSettlesCard : Claim7 := { stood := { row := stateSettlesRow, standIns := [], harness := (true, "d19baa5036c1284cba46882a1713de6fe92e2f86ce112b46133393f49ebb9f69"), looks := true }, kinds := [], alts := [], laidByText := true, laidKinds := [.data, .data, .data, .data, .sentinel, .sentinel, .pinned], laidTests := true, laidLooks := .later }
def StateSettlesCardSaid : Prop := Claim7.holds Tryd.pinned (.plain (OpenSpec.ofChange stateSettlesSpec)) stateSettlesCard

/-- THE SECOND FORM's CARD OF 'roadsteadlaw10.StateKeyed'. -/
def stateKeyedUptoCard : Claim7 := { stood := { row := stateKeyedUptoRow, standIns := [], harness := (true, "d19baa5036c1284cba46882a1713de6fe92e2f86ce112b46133393f49ebb9f69"), looks := true }, kinds := [], alts := [], laidByText := true, laidKinds := [.data, .data, .data, .data, .sentinel, .sentinel, .pinned], laidTests := true, laidLooks := .later }
def StateKeyedUptoCardSaid : Prop := Claim7.holds Tryd.pinned (.plain (OpenSpec.upto stateKeyedSpec)) stateKeyedUptoCard

/-- THE SECOND FORM's CARD OF 'roadsteadlaw10.StateSettles'. -/
def stateSettlesUptoCard : Claim7 := { stood := { row := stateSettlesUptoRow, standIns := [], harness := (true, "d19baa5036c1284cba46882a1713de6fe92e2f86ce112b46133393f49ebb9f69"), looks := true }, kinds := [], alts := [], laidByText := true, laidKinds := [.data, .data, .data, .data, .sentinel, .sentinel, .pinned], laidTests := true, laidLooks := .later }
def StateSettlesUptoCardSaid : Prop := Claim7.holds Tryd.pinned (.plain (OpenSpec.upto stateSettlesSpec)) stateSettlesUptoCard
end Rows
end Go.Proofs.YtgliemhhnkhboaaDoor
