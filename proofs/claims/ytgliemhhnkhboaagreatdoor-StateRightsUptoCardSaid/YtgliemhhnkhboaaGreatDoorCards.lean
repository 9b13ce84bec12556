/-
  DERIVED. GIVEN WITH THE SEED: THE CARDS: each row of YtgliemhhnkhboaaGreatDoorRows.lean that lists a variable, with what it lists TIED to the program's text (the seventh form; the later family's looks); each row that meets fmt, with fmt's text TOLD by the authors' own Lean function (tested against real Go, not proved from fmt's source: count such statements apart). THE CARD IS WHAT COUNTS. Prove the row's statement (the work); the ties are given (YtgliemhhnkhboaaGreatDoorTie.lean); close each card by the builder's one call (the guide's Derived/Test/ToyasCard.lean, 'card_holds'). Laid BY PROGRAM, IN A SANDBOX (cutbox-door.mjs). By AI agents, Wed Nov 11 2026. No macro, syntax, notation, axiom, sorry.
-/
import Derived.Test.YtgliemhhnkhboaaGreatDoorRows
import GoSem.ClaimSeven
namespace Go.Proofs.YtgliemhhnkhboaaGreatDoor
namespace Rows

/-- THE TIED CARD OF 'roadsteadlaw10.StateRights'. -/
def stateRightsCard : Claim7 := { stood := { row := stateRightsRow, standIns := [], harness := (true, "5c2a815216a9a2494362b962ea13a635b45024aaeec3e505b200c6859afb3171"), looks := true }, kinds := [], alts := [], laidByText := true, laidKinds := [.data, .data, .data, .data, .sentinel, .sentinel, .pinned], laidTests := true, laidLooks := .later }
def StateRightsCardSaid : Prop := Claim7.holds Tryz.pinned (.plain (OpenSpec.ofChange stateRightsSpec)) stateRightsCard

/-- THE TIED CARD OF 'roadsteadlaw10.StateBack'. -/
def stateBackCard : Claim7 := { stood := { row := stateBackRow, standIns := [], harness := (true, "5c2a815216a9a2494362b962ea13a635b45024aaeec3e505b200c6859afb3171"), looks := true }, kinds := [], alts := [], laidByText := true, laidKinds := [.data, .data, .data, .data, .sentinel, .sentinel, .pinned], laidTests := true, laidLooks := .later }
def StateBackCardSaid : Prop := Claim7.holds Tryz.pinned (.plain (OpenSpec.ofChange stateBackSpec)) stateBackCard

/-- THE TIED CARD OF 'roadsteadlaw10.StateOrder'. -/
def stateOrderCard : Claim7 := { stood := { row := stateOrderRow, standIns := [], harness := (true, "5c2a815216a9a2494362b962ea13a635b45024aaeec3e505b200c6859afb3171"), looks := true }, kinds := [], alts := [], laidByText := true, laidKinds := [.data, .data, .data, .data, .sentinel, .sentinel, .pinned], laidTests := true, laidLooks := .later }
def StateOrderCardSaid : Prop := Claim7.holds Tryz.pinned (.plain (OpenSpec.ofChange stateOrderSpec)) stateOrderCard

/-- THE TIED CARD OF 'roadsteadlaw10.StateChanges'. -/
def stateChangesCard : Claim7 := { stood := { row := stateChangesRow, standIns := [], harness := (true, "5c2a815216a9a2494362b962ea13a635b45024aaeec3e505b200c6859afb3171"), looks := true }, kinds := [], alts := [], laidByText := true, laidKinds := [.data, .data, .data, .data, .sentinel, .sentinel, .pinned], laidTests := true, laidLooks := .later }
def StateChangesCardSaid : Prop := Claim7.holds Tryz.pinned (.plain (OpenSpec.ofChange stateChangesSpec)) stateChangesCard

/-- THE SECOND FORM's CARD OF 'roadsteadlaw10.StateRights'. -/
def stateRightsUptoCard : Claim7 := { stood := { row := stateRightsUptoRow, standIns := [], harness := (true, "5c2a815216a9a2494362b962ea13a635b45024aaeec3e505b200c6859afb3171"), looks := true }, kinds := [], alts := [], laidByText := true, laidKinds := [.data, .data, .data, .data, .sentinel, .sentinel, .pinned], laidTests := true, laidLooks := .later }
def StateRightsUptoCardSaid : Prop := Claim7.holds Tryz.pinned (.plain (OpenSpec.upto stateRightsSpec)) stateRightsUptoCard

/-- THE SECOND FORM's CARD OF 'roadsteadlaw10.StateBack'. -/
def stateBackUptoCard : Claim7 := { stood := { row := stateBackUptoRow, standIns := [], harness := (true, "5c2a815216a9a2494362b962ea13a635b45024aaeec3e505b200c6859afb3171"), looks := true }, kinds := [], alts := [], laidByText := true, laidKinds := [.data, .data, .data, .data, .sentinel, .sentinel, .pinned], laidTests := true, laidLooks := .later }
def StateBackUptoCardSaid : Prop := Claim7.holds Tryz.pinned (.plain (OpenSpec.upto stateBackSpec)) stateBackUptoCard

/-- THE SECOND FORM's CARD OF 'roadsteadlaw10.StateOrder'. -/
def stateOrderUptoCard : Claim7 := { stood := { row := stateOrderUptoRow, standIns := [], harness := (true, "5c2a815216a9a2494362b962ea13a635b45024aaeec3e505b200c6859afb3171"), looks := true }, kinds := [], alts := [], laidByText := true, laidKinds := [.data, .data, .data, .data, .sentinel, .sentinel, .pinned], laidTests := true, laidLooks := .later }
def StateOrderUptoCardSaid : Prop := Claim7.holds Tryz.pinned (.plain (OpenSpec.upto stateOrderSpec)) stateOrderUptoCard

/-- THE SECOND FORM's CARD OF 'roadsteadlaw10.StateChanges'. -/
def stateChangesUptoCard : Claim7 := { stood := { row := stateChangesUptoRow, standIns := [], harness := (true, "5c2a815216a9a2494362b962ea13a635b45024aaeec3e505b200c6859afb3171"), looks := true }, kinds := [], alts := [], laidByText := true, laidKinds := [.data, .data, .data, .data, .sentinel, .sentinel, .pinned], laidTests := true, laidLooks := .later }
def StateChangesUptoCardSaid : Prop := Claim7.holds Tryz.pinned (.plain (OpenSpec.upto stateChangesSpec)) stateChangesUptoCard
end Rows
end Go.Proofs.YtgliemhhnkhboaaGreatDoor
