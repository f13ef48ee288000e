/-
  DERIVED. GIVEN WITH THE SEED: THE CARDS: each row of YtnhlpiomfljlcaaDoorRows.lean that lists a variable, with what it lists TIED to the program's text (the seventh form; the later family's looks); each row that meets fmt, with fmt's text TOLD by the authors' own Lean function (tested against real Go, not proved from fmt's source: count such statements apart). THE CARD IS WHAT COUNTS. Prove the row's statement (the work); the ties are given (YtnhlpiomfljlcaaDoorTie.lean); close each card by the builder's one call (the guide's Derived/Test/ToyasCard.lean, 'card_holds'). Laid BY PROGRAM, IN A SANDBOX (cutbox-door.mjs). By AI agents, Wed Nov 11 2026. No macro, syntax, notation, axiom, sorry.
-/
import Derived.Test.YtnhlpiomfljlcaaDoorRows
import GoSem.ClaimSeven
namespace Go.Proofs.YtnhlpiomfljlcaaDoor
namespace Rows

/-- THE TIED CARD OF 'bootjacklaw19.LoadNames'. -/
def loadNamesCard : Claim7 := { stood := { row := loadNamesRow, standIns := [], harness := (true, "3f170cce181bda425c96f492db3cc4e4e979afe1d0a003cc6da7e5311cd8e8b0"), looks := true }, kinds := [], alts := [], laidByText := true, laidKinds := [.data, .data, .pinned, .pinned, .pinned, .pinned], laidTests := true, laidLooks := .later }
def LoadNamesCardSaid : Prop := Claim7.holds Tryd.pinned (.plain (OpenSpec.ofChange loadNamesSpec)) loadNamesCard

/-- THE TIED CARD OF 'bootjacklaw19.LoadAll'. -/
def loadAllCard : Claim7 := { stood := { row := loadAllRow, standIns := [], harness := (true, "3f170cce181bda425c96f492db3cc4e4e979afe1d0a003cc6da7e5311cd8e8b0"), looks := true }, kinds := [], alts := [], laidByText := true, laidKinds := [.data, .data, .pinned, .pinned, .pinned, .pinned], laidTests := true, laidLooks := .later }
def LoadAllCardSaid : Prop := Claim7.holds Tryd.pinned (.plain (OpenSpec.ofChange loadAllSpec)) loadAllCard

/-- THE TIED CARD OF 'bootjacklaw19.LoadTries'. -/
def loadTriesCard : Claim7 := { stood := { row := loadTriesRow, standIns := [], harness := (true, "3f170cce181bda425c96f492db3cc4e4e979afe1d0a003cc6da7e5311cd8e8b0"), looks := true }, kinds := [], alts := [], laidByText := true, laidKinds := [.data, .data, .pinned, .pinned, .pinned, .pinned], laidTests := true, laidLooks := .later }
def LoadTriesCardSaid : Prop := Claim7.holds Tryd.pinned (.plain (OpenSpec.ofChange loadTriesSpec)) loadTriesCard

/-- THE TIED CARD OF 'bootjacklaw19.LoadRuns'. -/
def loadRunsCard : Claim7 := { stood := { row := loadRunsRow, standIns := [], harness := (true, "3f170cce181bda425c96f492db3cc4e4e979afe1d0a003cc6da7e5311cd8e8b0"), looks := true }, kinds := [], alts := [], laidByText := true, laidKinds := [.data, .data, .pinned, .pinned, .pinned, .pinned], laidTests := true, laidLooks := .later }
def LoadRunsCardSaid : Prop := Claim7.holds Tryd.pinned (.plain (OpenSpec.ofChange loadRunsSpec)) loadRunsCard

/-- THE SECOND FORM's CARD OF 'bootjacklaw19.LoadNames'. -/
def loadNamesUptoCard : Claim7 := { stood := { row := loadNamesUptoRow, standIns := [], harness := (true, "3f170cce181bda425c96f492db3cc4e4e979afe1d0a003cc6da7e5311cd8e8b0"), looks := true }, kinds := [], alts := [], laidByText := true, laidKinds := [.data, .data, .pinned, .pinned, .pinned, .pinned], laidTests := true, laidLooks := .later }
def LoadNamesUptoCardSaid : Prop := Claim7.holds Tryd.pinned (.plain (OpenSpec.upto loadNamesSpec)) loadNamesUptoCard

/-- THE SECOND FORM's CARD OF 'bootjacklaw19.LoadAll'. -/
def loadAllUptoCard : Claim7 := { stood := { row := loadAllUptoRow, standIns := [], harness := (true, "3f170cce181bda425c96f492db3cc4e4e979afe1d0a003cc6da7e5311cd8e8b0"), looks := true }, kinds := [], alts := [], laidByText := true, laidKinds := [.data, .data, .pinned, .pinned, .pinned, .pinned], laidTests := true, laidLooks := .later }
def LoadAllUptoCardSaid : Prop := Claim7.holds Tryd.pinned (.plain (OpenSpec.upto loadAllSpec)) loadAllUptoCard

/-- THE SECOND FORM's CARD OF 'bootjacklaw19.LoadTries'. -/
def loadTriesUptoCard : Claim7 := { stood := { row := loadTriesUptoRow, standIns := [], harness := (true, "3f170cce181bda425c96f492db3cc4e4e979afe1d0a003cc6da7e5311cd8e8b0"), looks := true }, kinds := [], alts := [], laidByText := true, laidKinds := [.data, .data, .pinned, .pinned, .pinned, .pinned], laidTests := true, laidLooks := .later }
def LoadTriesUptoCardSaid : Prop := Claim7.holds Tryd.pinned (.plain (OpenSpec.upto loadTriesSpec)) loadTriesUptoCard

/-- THE SECOND FORM's CARD OF 'bootjacklaw19.LoadRuns'. -/
def loadRunsUptoCard : Claim7 := { stood := { row := loadRunsUptoRow, standIns := [], harness := (true, "3f170cce181bda425c96f492db3cc4e4e979afe1d0a003cc6da7e5311cd8e8b0"), looks := true }, kinds := [], alts := [], laidByText := true, laidKinds := [.data, .data, .pinned, .pinned, .pinned, .pinned], laidTests := true, laidLooks := .later }
def LoadRunsUptoCardSaid : Prop := Claim7.holds Tryd.pinned (.plain (OpenSpec.upto loadRunsSpec)) loadRunsUptoCard
end Rows
end Go.Proofs.YtnhlpiomfljlcaaDoor
