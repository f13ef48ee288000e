/-
  DERIVED. GIVEN WITH THE SEED: THE CARDS: each row of YtkpgliaahibjgaaDoorRows.lean that lists a variable, with what it lists TIED to the program's text (the seventh form; the later family's looks); each row that meets fmt, with fmt's text TOLD by the authors' own Lean function (tested against real Go, not proved from fmt's source: count such statements apart). THE CARD IS WHAT COUNTS. Prove the row's statement (the work); the ties are given (YtkpgliaahibjgaaDoorTie.lean); close each card by the builder's one call (the guide's Derived/Test/ToyasCard.lean, 'card_holds'). Laid BY PROGRAM, IN A SANDBOX (cutbox-door.mjs). By AI agents, Wed Nov 11 2026. No macro, syntax, notation, axiom, sorry.
-/
import Derived.Test.YtkpgliaahibjgaaDoorRows
import GoSem.ClaimSeven
namespace Go.Proofs.YtkpgliaahibjgaaDoor
namespace Rows

/-- THE TIED CARD OF 'bootjacklaw15.ImageSectors'. -/
def imageSectorsCard : Claim7 := { stood := { row := imageSectorsRow, standIns := [], harness := (true, "602a0ad0e2e3b89908abc4703c52ba1d8190a2c40ae3e6485abe02fe695e58fe"), looks := false }, kinds := [], alts := [], laidByText := true, laidKinds := [.data, .data, .pinned, .pinned, .pinned], laidTests := true, laidLooks := .later }
def ImageSectorsCardSaid : Prop := Claim7.holds Tryd.pinned (.plain (OpenSpec.ofChange imageSectorsSpec)) imageSectorsCard

/-- THE TIED CARD OF 'bootjacklaw15.ImageTakes'. -/
def imageTakesCard : Claim7 := { stood := { row := imageTakesRow, standIns := [], harness := (true, "602a0ad0e2e3b89908abc4703c52ba1d8190a2c40ae3e6485abe02fe695e58fe"), looks := false }, kinds := [], alts := [], laidByText := true, laidKinds := [.data, .data, .pinned, .pinned, .pinned], laidTests := true, laidLooks := .later }
def ImageTakesCardSaid : Prop := Claim7.holds Tryd.pinned (.plain (OpenSpec.ofChange imageTakesSpec)) imageTakesCard

/-- THE TIED CARD OF 'bootjacklaw15.ImageWhole'. -/
def imageWholeCard : Claim7 := { stood := { row := imageWholeRow, standIns := [], harness := (true, "602a0ad0e2e3b89908abc4703c52ba1d8190a2c40ae3e6485abe02fe695e58fe"), looks := false }, kinds := [], alts := [], laidByText := true, laidKinds := [.data, .data, .pinned, .pinned, .pinned], laidTests := true, laidLooks := .later }
def ImageWholeCardSaid : Prop := Claim7.holds Tryd.pinned (.plain (OpenSpec.ofChange imageWholeSpec)) imageWholeCard

/-- THE TIED CARD OF 'bootjacklaw15.ImageCuts'. -/
def imageCutsCard : Claim7 := { stood := { row := imageCutsRow, standIns := [], harness := (true, "602a0ad0e2e3b89908abc4703c52ba1d8190a2c40ae3e6485abe02fe695e58fe"), looks := false }, kinds := [], alts := [], laidByText := true, laidKinds := [.data, .data, .pinned, .pinned, .pinned], laidTests := true, laidLooks := .later }
def ImageCutsCardSaid : Prop := Claim7.holds Tryd.pinned (.plain (OpenSpec.ofChange imageCutsSpec)) imageCutsCard

/-- THE TIED CARD OF 'bootjacklaw15.ImageBack'. -/
def imageBackCard : Claim7 := { stood := { row := imageBackRow, standIns := [], harness := (true, "602a0ad0e2e3b89908abc4703c52ba1d8190a2c40ae3e6485abe02fe695e58fe"), looks := false }, kinds := [], alts := [], laidByText := true, laidKinds := [.data, .data, .pinned, .pinned, .pinned], laidTests := true, laidLooks := .later }
def ImageBackCardSaid : Prop := Claim7.holds Tryd.pinned (.plain (OpenSpec.ofChange imageBackSpec)) imageBackCard

/-- THE TIED CARD OF 'bootjacklaw15.ImageNames'. -/
def imageNamesCard : Claim7 := { stood := { row := imageNamesRow, standIns := [], harness := (true, "602a0ad0e2e3b89908abc4703c52ba1d8190a2c40ae3e6485abe02fe695e58fe"), looks := false }, kinds := [], alts := [], laidByText := true, laidKinds := [.data, .data, .pinned, .pinned, .pinned], laidTests := true, laidLooks := .later }
def ImageNamesCardSaid : Prop := Claim7.holds Tryd.pinned (.plain (OpenSpec.ofChange imageNamesSpec)) imageNamesCard

/-- THE SECOND FORM's CARD OF 'bootjacklaw15.ImageSectors'. -/
def imageSectorsUptoCard : Claim7 := { stood := { row := imageSectorsUptoRow, standIns := [], harness := (true, "602a0ad0e2e3b89908abc4703c52ba1d8190a2c40ae3e6485abe02fe695e58fe"), looks := false }, kinds := [], alts := [], laidByText := true, laidKinds := [.data, .data, .pinned, .pinned, .pinned], laidTests := true, laidLooks := .later }
def ImageSectorsUptoCardSaid : Prop := Claim7.holds Tryd.pinned (.plain (OpenSpec.upto imageSectorsSpec)) imageSectorsUptoCard

/-- THE SECOND FORM's CARD OF 'bootjacklaw15.ImageTakes'. -/
def imageTakesUptoCard : Claim7 := { stood := { row := imageTakesUptoRow, standIns := [], harness := (true, "602a0ad0e2e3b89908abc4703c52ba1d8190a2c40ae3e6485abe02fe695e58fe"), looks := false }, kinds := [], alts := [], laidByText := true, laidKinds := [.data, .data, .pinned, .pinned, .pinned], laidTests := true, laidLooks := .later }
def ImageTakesUptoCardSaid : Prop := Claim7.holds Tryd.pinned (.plain (OpenSpec.upto imageTakesSpec)) imageTakesUptoCard

/-- THE SECOND FORM's CARD OF 'bootjacklaw15.ImageWhole'. -/
def imageWholeUptoCard : Claim7 := { stood := { row := imageWholeUptoRow, standIns := [], harness := (true, "602a0ad0e2e3b89908abc4703c52ba1d8190a2c40ae3e6485abe02fe695e58fe"), looks := false }, kinds := [], alts := [], laidByText := true, laidKinds := [.data, .data, .pinned, .pinned, .pinned], laidTests := true, laidLooks := .later }
def ImageWholeUptoCardSaid : Prop := Claim7.holds Tryd.pinned (.plain (OpenSpec.upto imageWholeSpec)) imageWholeUptoCard

/-- THE SECOND FORM's CARD OF 'bootjacklaw15.ImageCuts'. -/
def imageCutsUptoCard : Claim7 := { stood := { row := imageCutsUptoRow, standIns := [], harness := (true, "602a0ad0e2e3b89908abc4703c52ba1d8190a2c40ae3e6485abe02fe695e58fe"), looks := false }, kinds := [], alts := [], laidByText := true, laidKinds := [.data, .data, .pinned, .pinned, .pinned], laidTests := true, laidLooks := .later }
def ImageCutsUptoCardSaid : Prop := Claim7.holds Tryd.pinned (.plain (OpenSpec.upto imageCutsSpec)) imageCutsUptoCard

/-- THE SECOND FORM's CARD OF 'bootjacklaw15.ImageBack'. -/
def imageBackUptoCard : Claim7 := { stood := { row := imageBackUptoRow, standIns := [], harness := (true, "602a0ad0e2e3b89908abc4703c52ba1d8190a2c40ae3e6485abe02fe695e58fe"), looks := false }, kinds := [], alts := [], laidByText := true, laidKinds := [.data, .data, .pinned, .pinned, .pinned], laidTests := true, laidLooks := .later }
def ImageBackUptoCardSaid : Prop := Claim7.holds Tryd.pinned (.plain (OpenSpec.upto imageBackSpec)) imageBackUptoCard

/-- THE SECOND FORM's CARD OF 'bootjacklaw15.ImageNames'. -/
def imageNamesUptoCard : Claim7 := { stood := { row := imageNamesUptoRow, standIns := [], harness := (true, "602a0ad0e2e3b89908abc4703c52ba1d8190a2c40ae3e6485abe02fe695e58fe"), looks := false }, kinds := [], alts := [], laidByText := true, laidKinds := [.data, .data, .pinned, .pinned, .pinned], laidTests := true, laidLooks := .later }
def ImageNamesUptoCardSaid : Prop := Claim7.holds Tryd.pinned (.plain (OpenSpec.upto imageNamesSpec)) imageNamesUptoCard
end Rows
end Go.Proofs.YtkpgliaahibjgaaDoor
