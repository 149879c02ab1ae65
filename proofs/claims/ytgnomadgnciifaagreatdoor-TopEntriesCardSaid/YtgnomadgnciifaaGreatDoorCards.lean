/-
  DERIVED. GIVEN WITH THE SEED: THE CARDS: each row of YtgnomadgnciifaaGreatDoorRows.lean that lists a variable, with what it lists TIED to the program's text (the seventh form; the later family's looks); each row that meets fmt, with fmt's text TOLD by the authors' own Lean function (tested against real Go, not proved from fmt's source: count such statements apart). THE CARD IS WHAT COUNTS. Prove the row's statement (the work); the ties are given (YtgnomadgnciifaaGreatDoorTie.lean); close each card by the builder's one call (the guide's Derived/Test/ToyasCard.lean, 'card_holds'). Laid BY PROGRAM, IN A SANDBOX (cutbox-door.mjs). By AI agents, Wed Nov 11 2026. No macro, syntax, notation, axiom, sorry.
-/
import Derived.Test.YtgnomadgnciifaaGreatDoorRows
import GoSem.ClaimSeven
namespace Go.Proofs.YtgnomadgnciifaaGreatDoor
namespace Rows

/-- THE TIED CARD OF 'auspextop.TopEntries'. -/
def topEntriesCard : Claim7 := { stood := { row := topEntriesRow, standIns := [], harness := (true, "78443a6aa5647d1742fcece1de46c58f8595afeb5808eb9468127ad609868531"), looks := false }, kinds := [], alts := [], laidByText := true, laidKinds := [.data], laidTests := true, laidLooks := .later }
def TopEntriesCardSaid : Prop := Claim7.holds Tryz.pinned (.plain (OpenSpec.ofChange topEntriesSpec)) topEntriesCard

/-- THE TIED CARD OF 'auspextop.TopSources'. -/
def topSourcesCard : Claim7 := { stood := { row := topSourcesRow, standIns := [], harness := (true, "78443a6aa5647d1742fcece1de46c58f8595afeb5808eb9468127ad609868531"), looks := false }, kinds := [], alts := [], laidByText := true, laidKinds := [.data], laidTests := true, laidLooks := .later }
def TopSourcesCardSaid : Prop := Claim7.holds Tryz.pinned (.plain (OpenSpec.ofChange topSourcesSpec)) topSourcesCard

/-- THE TIED CARD OF 'auspextop.TopOpen'. -/
def topOpenCard : Claim7 := { stood := { row := topOpenRow, standIns := [], harness := (true, "78443a6aa5647d1742fcece1de46c58f8595afeb5808eb9468127ad609868531"), looks := false }, kinds := [], alts := [], laidByText := true, laidKinds := [.data], laidTests := true, laidLooks := .later }
def TopOpenCardSaid : Prop := Claim7.holds Tryz.pinned (.plain (OpenSpec.ofChange topOpenSpec)) topOpenCard

/-- THE TIED CARD OF 'auspextop.TopWaits'. -/
def topWaitsCard : Claim7 := { stood := { row := topWaitsRow, standIns := [], harness := (true, "78443a6aa5647d1742fcece1de46c58f8595afeb5808eb9468127ad609868531"), looks := false }, kinds := [], alts := [], laidByText := true, laidKinds := [.data], laidTests := true, laidLooks := .later }
def TopWaitsCardSaid : Prop := Claim7.holds Tryz.pinned (.plain (OpenSpec.ofChange topWaitsSpec)) topWaitsCard

/-- THE SECOND FORM's CARD OF 'auspextop.TopEntries'. -/
def topEntriesUptoCard : Claim7 := { stood := { row := topEntriesUptoRow, standIns := [], harness := (true, "78443a6aa5647d1742fcece1de46c58f8595afeb5808eb9468127ad609868531"), looks := false }, kinds := [], alts := [], laidByText := true, laidKinds := [.data], laidTests := true, laidLooks := .later }
def TopEntriesUptoCardSaid : Prop := Claim7.holds Tryz.pinned (.plain (OpenSpec.upto topEntriesSpec)) topEntriesUptoCard

/-- THE SECOND FORM's CARD OF 'auspextop.TopSources'. -/
def topSourcesUptoCard : Claim7 := { stood := { row := topSourcesUptoRow, standIns := [], harness := (true, "78443a6aa5647d1742fcece1de46c58f8595afeb5808eb9468127ad609868531"), looks := false }, kinds := [], alts := [], laidByText := true, laidKinds := [.data], laidTests := true, laidLooks := .later }
def TopSourcesUptoCardSaid : Prop := Claim7.holds Tryz.pinned (.plain (OpenSpec.upto topSourcesSpec)) topSourcesUptoCard

/-- THE SECOND FORM's CARD OF 'auspextop.TopOpen'. -/
def topOpenUptoCard : Claim7 := { stood := { row := topOpenUptoRow, standIns := [], harness := (true, "78443a6aa5647d1742fcece1de46c58f8595afeb5808eb9468127ad609868531"), looks := false }, kinds := [], alts := [], laidByText := true, laidKinds := [.data], laidTests := true, laidLooks := .later }
def TopOpenUptoCardSaid : Prop := Claim7.holds Tryz.pinned (.plain (OpenSpec.upto topOpenSpec)) topOpenUptoCard

/-- THE SECOND FORM's CARD OF 'auspextop.TopWaits'. -/
def topWaitsUptoCard : Claim7 := { stood := { row := topWaitsUptoRow, standIns := [], harness := (true, "78443a6aa5647d1742fcece1de46c58f8595afeb5808eb9468127ad609868531"), looks := false }, kinds := [], alts := [], laidByText := true, laidKinds := [.data], laidTests := true, laidLooks := .later }
def TopWaitsUptoCardSaid : Prop := Claim7.holds Tryz.pinned (.plain (OpenSpec.upto topWaitsSpec)) topWaitsUptoCard
end Rows
end Go.Proofs.YtgnomadgnciifaaGreatDoor
