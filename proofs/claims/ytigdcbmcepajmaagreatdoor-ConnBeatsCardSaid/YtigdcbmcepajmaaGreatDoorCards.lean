/-
  DERIVED. GIVEN WITH THE SEED: THE CARDS: each row of YtigdcbmcepajmaaGreatDoorRows.lean that lists a variable, with what it lists TIED to the program's text (the seventh form; the later family's looks); each row that meets fmt, with fmt's text TOLD by the authors' own Lean function (tested against real Go, not proved from fmt's source: count such statements apart). THE CARD IS WHAT COUNTS. Prove the row's statement (the work); the ties are given (YtigdcbmcepajmaaGreatDoorTie.lean); close each card by the builder's one call (the guide's Derived/Test/ToyasCard.lean, 'card_holds'). Laid BY PROGRAM, IN A SANDBOX (cutbox-door.mjs). By AI agents, Wed Nov 11 2026. No macro, syntax, notation, axiom, sorry.
-/
import Derived.Test.YtigdcbmcepajmaaGreatDoorRows
import GoSem.ClaimSeven
namespace Go.Proofs.YtigdcbmcepajmaaGreatDoor
namespace Rows

/-- THE TIED CARD OF 'signalboxlaw22.PoolWaits'. -/
def poolWaitsCard : Claim7 := { stood := { row := poolWaitsRow, standIns := [], harness := (true, "15f65b93c7d69682e2d8d0d51690068412c2c227332c5c621e6b09ccc6761e35"), looks := false }, kinds := [], alts := [], laidByText := true, laidKinds := [.data, .data, .pinned], laidTests := true, laidLooks := .later }
def PoolWaitsCardSaid : Prop := Claim7.holds Tryz.pinned (.plain (OpenSpec.ofChange poolWaitsSpec)) poolWaitsCard

/-- THE TIED CARD OF 'signalboxlaw21.ConnBeats'. -/
def connBeatsCard : Claim7 := { stood := { row := connBeatsRow, standIns := [], harness := (true, "15f65b93c7d69682e2d8d0d51690068412c2c227332c5c621e6b09ccc6761e35"), looks := false }, kinds := [], alts := [], laidByText := true, laidKinds := [.data, .data, .pinned], laidTests := true, laidLooks := .later }
def ConnBeatsCardSaid : Prop := Claim7.holds Tryz.pinned (.plain (OpenSpec.ofChange connBeatsSpec)) connBeatsCard

/-- THE TIED CARD OF 'signalboxlaw21.ConnNotes'. -/
def connNotesCard : Claim7 := { stood := { row := connNotesRow, standIns := [], harness := (true, "15f65b93c7d69682e2d8d0d51690068412c2c227332c5c621e6b09ccc6761e35"), looks := false }, kinds := [], alts := [], laidByText := true, laidKinds := [.data, .data, .pinned], laidTests := true, laidLooks := .later }
def ConnNotesCardSaid : Prop := Claim7.holds Tryz.pinned (.plain (OpenSpec.ofChange connNotesSpec)) connNotesCard

/-- THE TIED CARD OF 'signalboxlaw21.ConnShakes'. -/
def connShakesCard : Claim7 := { stood := { row := connShakesRow, standIns := [], harness := (true, "15f65b93c7d69682e2d8d0d51690068412c2c227332c5c621e6b09ccc6761e35"), looks := false }, kinds := [], alts := [], laidByText := true, laidKinds := [.data, .data, .pinned], laidTests := true, laidLooks := .later }
def ConnShakesCardSaid : Prop := Claim7.holds Tryz.pinned (.plain (OpenSpec.ofChange connShakesSpec)) connShakesCard

/-- THE TIED CARD OF 'signalboxlaw21.ConnOrphans'. -/
def connOrphansCard : Claim7 := { stood := { row := connOrphansRow, standIns := [], harness := (true, "15f65b93c7d69682e2d8d0d51690068412c2c227332c5c621e6b09ccc6761e35"), looks := false }, kinds := [], alts := [], laidByText := true, laidKinds := [.data, .data, .pinned], laidTests := true, laidLooks := .later }
def ConnOrphansCardSaid : Prop := Claim7.holds Tryz.pinned (.plain (OpenSpec.ofChange connOrphansSpec)) connOrphansCard

/-- THE TIED CARD OF 'signalboxlaw21.ConnNone'. -/
def connNoneCard : Claim7 := { stood := { row := connNoneRow, standIns := [], harness := (true, "15f65b93c7d69682e2d8d0d51690068412c2c227332c5c621e6b09ccc6761e35"), looks := false }, kinds := [], alts := [], laidByText := true, laidKinds := [.data, .data, .pinned], laidTests := true, laidLooks := .later }
def ConnNoneCardSaid : Prop := Claim7.holds Tryz.pinned (.plain (OpenSpec.ofChange connNoneSpec)) connNoneCard

/-- THE TIED CARD OF 'signalboxlaw21.ConnOwed'. -/
def connOwedCard : Claim7 := { stood := { row := connOwedRow, standIns := [], harness := (true, "15f65b93c7d69682e2d8d0d51690068412c2c227332c5c621e6b09ccc6761e35"), looks := false }, kinds := [], alts := [], laidByText := true, laidKinds := [.data, .data, .pinned], laidTests := true, laidLooks := .later }
def ConnOwedCardSaid : Prop := Claim7.holds Tryz.pinned (.plain (OpenSpec.ofChange connOwedSpec)) connOwedCard

/-- THE TIED CARD OF 'signalboxlaw22.PoolLeast'. -/
def poolLeastCard : Claim7 := { stood := { row := poolLeastRow, standIns := [], harness := (true, "15f65b93c7d69682e2d8d0d51690068412c2c227332c5c621e6b09ccc6761e35"), looks := false }, kinds := [], alts := [], laidByText := true, laidKinds := [.data, .data, .pinned], laidTests := true, laidLooks := .later }
def PoolLeastCardSaid : Prop := Claim7.holds Tryz.pinned (.plain (OpenSpec.ofChange poolLeastSpec)) poolLeastCard

/-- THE TIED CARD OF 'signalboxlaw22.PoolReadies'. -/
def poolReadiesCard : Claim7 := { stood := { row := poolReadiesRow, standIns := [], harness := (true, "15f65b93c7d69682e2d8d0d51690068412c2c227332c5c621e6b09ccc6761e35"), looks := false }, kinds := [], alts := [], laidByText := true, laidKinds := [.data, .data, .pinned], laidTests := true, laidLooks := .later }
def PoolReadiesCardSaid : Prop := Claim7.holds Tryz.pinned (.plain (OpenSpec.ofChange poolReadiesSpec)) poolReadiesCard

/-- THE TIED CARD OF 'signalboxlaw22.PoolStops'. -/
def poolStopsCard : Claim7 := { stood := { row := poolStopsRow, standIns := [], harness := (true, "15f65b93c7d69682e2d8d0d51690068412c2c227332c5c621e6b09ccc6761e35"), looks := false }, kinds := [], alts := [], laidByText := true, laidKinds := [.data, .data, .pinned], laidTests := true, laidLooks := .later }
def PoolStopsCardSaid : Prop := Claim7.holds Tryz.pinned (.plain (OpenSpec.ofChange poolStopsSpec)) poolStopsCard

/-- THE TIED CARD OF 'signalboxlaw22.PoolNone'. -/
def poolNoneCard : Claim7 := { stood := { row := poolNoneRow, standIns := [], harness := (true, "15f65b93c7d69682e2d8d0d51690068412c2c227332c5c621e6b09ccc6761e35"), looks := false }, kinds := [], alts := [], laidByText := true, laidKinds := [.data, .data, .pinned], laidTests := true, laidLooks := .later }
def PoolNoneCardSaid : Prop := Claim7.holds Tryz.pinned (.plain (OpenSpec.ofChange poolNoneSpec)) poolNoneCard

/-- THE SECOND FORM's CARD OF 'signalboxlaw22.PoolWaits'. -/
def poolWaitsUptoCard : Claim7 := { stood := { row := poolWaitsUptoRow, standIns := [], harness := (true, "15f65b93c7d69682e2d8d0d51690068412c2c227332c5c621e6b09ccc6761e35"), looks := false }, kinds := [], alts := [], laidByText := true, laidKinds := [.data, .data, .pinned], laidTests := true, laidLooks := .later }
def PoolWaitsUptoCardSaid : Prop := Claim7.holds Tryz.pinned (.plain (OpenSpec.upto poolWaitsSpec)) poolWaitsUptoCard

/-- THE SECOND FORM's CARD OF 'signalboxlaw21.ConnBeats'. -/
def connBeatsUptoCard : Claim7 := { stood := { row := connBeatsUptoRow, standIns := [], harness := (true, "15f65b93c7d69682e2d8d0d51690068412c2c227332c5c621e6b09ccc6761e35"), looks := false }, kinds := [], alts := [], laidByText := true, laidKinds := [.data, .data, .pinned], laidTests := true, laidLooks := .later }
def ConnBeatsUptoCardSaid : Prop := Claim7.holds Tryz.pinned (.plain (OpenSpec.upto connBeatsSpec)) connBeatsUptoCard

/-- THE SECOND FORM's CARD OF 'signalboxlaw21.ConnNotes'. -/
def connNotesUptoCard : Claim7 := { stood := { row := connNotesUptoRow, standIns := [], harness := (true, "15f65b93c7d69682e2d8d0d51690068412c2c227332c5c621e6b09ccc6761e35"), looks := false }, kinds := [], alts := [], laidByText := true, laidKinds := [.data, .data, .pinned], laidTests := true, laidLooks := .later }
def ConnNotesUptoCardSaid : Prop := Claim7.holds Tryz.pinned (.plain (OpenSpec.upto connNotesSpec)) connNotesUptoCard

/-- THE SECOND FORM's CARD OF 'signalboxlaw21.ConnShakes'. -/
def connShakesUptoCard : Claim7 := { stood := { row := connShakesUptoRow, standIns := [], harness := (true, "15f65b93c7d69682e2d8d0d51690068412c2c227332c5c621e6b09ccc6761e35"), looks := false }, kinds := [], alts := [], laidByText := true, laidKinds := [.data, .data, .pinned], laidTests := true, laidLooks := .later }
def ConnShakesUptoCardSaid : Prop := Claim7.holds Tryz.pinned (.plain (OpenSpec.upto connShakesSpec)) connShakesUptoCard

/-- THE SECOND FORM's CARD OF 'signalboxlaw21.ConnOrphans'. -/
def connOrphansUptoCard : Claim7 := { stood := { row := connOrphansUptoRow, standIns := [], harness := (true, "15f65b93c7d69682e2d8d0d51690068412c2c227332c5c621e6b09ccc6761e35"), looks := false }, kinds := [], alts := [], laidByText := true, laidKinds := [.data, .data, .pinned], laidTests := true, laidLooks := .later }
def ConnOrphansUptoCardSaid : Prop := Claim7.holds Tryz.pinned (.plain (OpenSpec.upto connOrphansSpec)) connOrphansUptoCard

/-- THE SECOND FORM's CARD OF 'signalboxlaw21.ConnNone'. -/
def connNoneUptoCard : Claim7 := { stood := { row := connNoneUptoRow, standIns := [], harness := (true, "15f65b93c7d69682e2d8d0d51690068412c2c227332c5c621e6b09ccc6761e35"), looks := false }, kinds := [], alts := [], laidByText := true, laidKinds := [.data, .data, .pinned], laidTests := true, laidLooks := .later }
def ConnNoneUptoCardSaid : Prop := Claim7.holds Tryz.pinned (.plain (OpenSpec.upto connNoneSpec)) connNoneUptoCard

/-- THE SECOND FORM's CARD OF 'signalboxlaw21.ConnOwed'. -/
def connOwedUptoCard : Claim7 := { stood := { row := connOwedUptoRow, standIns := [], harness := (true, "15f65b93c7d69682e2d8d0d51690068412c2c227332c5c621e6b09ccc6761e35"), looks := false }, kinds := [], alts := [], laidByText := true, laidKinds := [.data, .data, .pinned], laidTests := true, laidLooks := .later }
def ConnOwedUptoCardSaid : Prop := Claim7.holds Tryz.pinned (.plain (OpenSpec.upto connOwedSpec)) connOwedUptoCard

/-- THE SECOND FORM's CARD OF 'signalboxlaw22.PoolLeast'. -/
def poolLeastUptoCard : Claim7 := { stood := { row := poolLeastUptoRow, standIns := [], harness := (true, "15f65b93c7d69682e2d8d0d51690068412c2c227332c5c621e6b09ccc6761e35"), looks := false }, kinds := [], alts := [], laidByText := true, laidKinds := [.data, .data, .pinned], laidTests := true, laidLooks := .later }
def PoolLeastUptoCardSaid : Prop := Claim7.holds Tryz.pinned (.plain (OpenSpec.upto poolLeastSpec)) poolLeastUptoCard

/-- THE SECOND FORM's CARD OF 'signalboxlaw22.PoolReadies'. -/
def poolReadiesUptoCard : Claim7 := { stood := { row := poolReadiesUptoRow, standIns := [], harness := (true, "15f65b93c7d69682e2d8d0d51690068412c2c227332c5c621e6b09ccc6761e35"), looks := false }, kinds := [], alts := [], laidByText := true, laidKinds := [.data, .data, .pinned], laidTests := true, laidLooks := .later }
def PoolReadiesUptoCardSaid : Prop := Claim7.holds Tryz.pinned (.plain (OpenSpec.upto poolReadiesSpec)) poolReadiesUptoCard

/-- THE SECOND FORM's CARD OF 'signalboxlaw22.PoolStops'. -/
def poolStopsUptoCard : Claim7 := { stood := { row := poolStopsUptoRow, standIns := [], harness := (true, "15f65b93c7d69682e2d8d0d51690068412c2c227332c5c621e6b09ccc6761e35"), looks := false }, kinds := [], alts := [], laidByText := true, laidKinds := [.data, .data, .pinned], laidTests := true, laidLooks := .later }
def PoolStopsUptoCardSaid : Prop := Claim7.holds Tryz.pinned (.plain (OpenSpec.upto poolStopsSpec)) poolStopsUptoCard

/-- THE SECOND FORM's CARD OF 'signalboxlaw22.PoolNone'. -/
def poolNoneUptoCard : Claim7 := { stood := { row := poolNoneUptoRow, standIns := [], harness := (true, "15f65b93c7d69682e2d8d0d51690068412c2c227332c5c621e6b09ccc6761e35"), looks := false }, kinds := [], alts := [], laidByText := true, laidKinds := [.data, .data, .pinned], laidTests := true, laidLooks := .later }
def PoolNoneUptoCardSaid : Prop := Claim7.holds Tryz.pinned (.plain (OpenSpec.upto poolNoneSpec)) poolNoneUptoCard
end Rows
end Go.Proofs.YtigdcbmcepajmaaGreatDoor
