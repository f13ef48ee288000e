/-
  DERIVED. GIVEN WITH THE SEED: THE CARDS: each row of YtfbffmckmchbbaaDoorRows.lean that lists a variable, with what it lists TIED to the program's text (the seventh form; the later family's looks); each row that meets fmt, with fmt's text TOLD by the authors' own Lean function (tested against real Go, not proved from fmt's source: count such statements apart). THE CARD IS WHAT COUNTS. Prove the row's statement (the work); the ties are given (YtfbffmckmchbbaaDoorTie.lean); close each card by the builder's one call (the guide's Derived/Test/ToyasCard.lean, 'card_holds'). Laid BY PROGRAM, IN A SANDBOX (cutbox-door.mjs). By AI agents, Wed Nov 11 2026. No macro, syntax, notation, axiom, sorry.
-/
import Derived.Test.YtfbffmckmchbbaaDoorRows
import GoSem.ClaimSeven
namespace Go.Proofs.YtfbffmckmchbbaaDoor
namespace Rows

/-- THE TIED CARD OF 'bootjacklaw13.ManifestParses'. -/
def manifestParsesCard : Claim7 := { stood := { row := manifestParsesRow, standIns := [], harness := (true, "df78a3862381af57f45b661dfb7c9fffbdbdcf5e1d42e498fa50d0e9a7ebac55"), looks := false }, kinds := [], alts := [], laidByText := true, laidKinds := [.data, .data, .pinned, .pinned, .pinned], laidTests := true, laidLooks := .later }
def ManifestParsesCardSaid : Prop := Claim7.holds Tryd.pinned (.plain (OpenSpec.ofChange manifestParsesSpec)) manifestParsesCard

/-- THE TIED CARD OF 'bootjacklaw13.ManifestSame'. -/
def manifestSameCard : Claim7 := { stood := { row := manifestSameRow, standIns := [], harness := (true, "df78a3862381af57f45b661dfb7c9fffbdbdcf5e1d42e498fa50d0e9a7ebac55"), looks := false }, kinds := [], alts := [], laidByText := true, laidKinds := [.data, .data, .pinned, .pinned, .pinned], laidTests := true, laidLooks := .later }
def ManifestSameCardSaid : Prop := Claim7.holds Tryd.pinned (.plain (OpenSpec.ofChange manifestSameSpec)) manifestSameCard

/-- THE TIED CARD OF 'bootjacklaw13.ManifestMakes'. -/
def manifestMakesCard : Claim7 := { stood := { row := manifestMakesRow, standIns := [], harness := (true, "df78a3862381af57f45b661dfb7c9fffbdbdcf5e1d42e498fa50d0e9a7ebac55"), looks := false }, kinds := [], alts := [], laidByText := true, laidKinds := [.data, .data, .pinned, .pinned, .pinned], laidTests := true, laidLooks := .later }
def ManifestMakesCardSaid : Prop := Claim7.holds Tryd.pinned (.plain (OpenSpec.ofChange manifestMakesSpec)) manifestMakesCard

/-- THE TIED CARD OF 'bootjacklaw13.ManifestSpans'. -/
def manifestSpansCard : Claim7 := { stood := { row := manifestSpansRow, standIns := [], harness := (true, "df78a3862381af57f45b661dfb7c9fffbdbdcf5e1d42e498fa50d0e9a7ebac55"), looks := false }, kinds := [], alts := [], laidByText := true, laidKinds := [.data, .data, .pinned, .pinned, .pinned], laidTests := true, laidLooks := .later }
def ManifestSpansCardSaid : Prop := Claim7.holds Tryd.pinned (.plain (OpenSpec.ofChange manifestSpansSpec)) manifestSpansCard

/-- THE TIED CARD OF 'bootjacklaw13.ManifestCuts'. -/
def manifestCutsCard : Claim7 := { stood := { row := manifestCutsRow, standIns := [], harness := (true, "df78a3862381af57f45b661dfb7c9fffbdbdcf5e1d42e498fa50d0e9a7ebac55"), looks := false }, kinds := [], alts := [], laidByText := true, laidKinds := [.data, .data, .pinned, .pinned, .pinned], laidTests := true, laidLooks := .later }
def ManifestCutsCardSaid : Prop := Claim7.holds Tryd.pinned (.plain (OpenSpec.ofChange manifestCutsSpec)) manifestCutsCard

/-- THE TIED CARD OF 'bootjacklaw13.ManifestImage'. -/
def manifestImageCard : Claim7 := { stood := { row := manifestImageRow, standIns := [], harness := (true, "df78a3862381af57f45b661dfb7c9fffbdbdcf5e1d42e498fa50d0e9a7ebac55"), looks := false }, kinds := [], alts := [], laidByText := true, laidKinds := [.data, .data, .pinned, .pinned, .pinned], laidTests := true, laidLooks := .later }
def ManifestImageCardSaid : Prop := Claim7.holds Tryd.pinned (.plain (OpenSpec.ofChange manifestImageSpec)) manifestImageCard

/-- THE TIED CARD OF 'bootjacklaw13.ManifestNames'. -/
def manifestNamesCard : Claim7 := { stood := { row := manifestNamesRow, standIns := [], harness := (true, "df78a3862381af57f45b661dfb7c9fffbdbdcf5e1d42e498fa50d0e9a7ebac55"), looks := false }, kinds := [], alts := [], laidByText := true, laidKinds := [.data, .data, .data, .data, .data, .pinned, .pinned, .pinned], laidTests := true, laidLooks := .later }
def ManifestNamesCardSaid : Prop := Claim7.holds Tryd.pinned (.plain (OpenSpec.ofChange manifestNamesSpec)) manifestNamesCard

/-- THE TIED CARD OF 'bootjacklaw13.ManifestTells'. -/
def manifestTellsCard : Claim7 := { stood := { row := manifestTellsRow, standIns := [], harness := (true, "df78a3862381af57f45b661dfb7c9fffbdbdcf5e1d42e498fa50d0e9a7ebac55"), looks := false }, kinds := [], alts := [], laidByText := true, laidKinds := [.data, .data, .data, .data, .data, .pinned, .pinned, .pinned], laidTests := true, laidLooks := .later }
def ManifestTellsCardSaid : Prop := Claim7.holds Tryd.pinned (.plain (OpenSpec.ofChange manifestTellsSpec)) manifestTellsCard

/-- THE SECOND FORM's CARD OF 'bootjacklaw13.ManifestParses'. -/
def manifestParsesUptoCard : Claim7 := { stood := { row := manifestParsesUptoRow, standIns := [], harness := (true, "df78a3862381af57f45b661dfb7c9fffbdbdcf5e1d42e498fa50d0e9a7ebac55"), looks := false }, kinds := [], alts := [], laidByText := true, laidKinds := [.data, .data, .pinned, .pinned, .pinned], laidTests := true, laidLooks := .later }
def ManifestParsesUptoCardSaid : Prop := Claim7.holds Tryd.pinned (.plain (OpenSpec.upto manifestParsesSpec)) manifestParsesUptoCard

/-- THE SECOND FORM's CARD OF 'bootjacklaw13.ManifestSame'. -/
def manifestSameUptoCard : Claim7 := { stood := { row := manifestSameUptoRow, standIns := [], harness := (true, "df78a3862381af57f45b661dfb7c9fffbdbdcf5e1d42e498fa50d0e9a7ebac55"), looks := false }, kinds := [], alts := [], laidByText := true, laidKinds := [.data, .data, .pinned, .pinned, .pinned], laidTests := true, laidLooks := .later }
def ManifestSameUptoCardSaid : Prop := Claim7.holds Tryd.pinned (.plain (OpenSpec.upto manifestSameSpec)) manifestSameUptoCard

/-- THE SECOND FORM's CARD OF 'bootjacklaw13.ManifestMakes'. -/
def manifestMakesUptoCard : Claim7 := { stood := { row := manifestMakesUptoRow, standIns := [], harness := (true, "df78a3862381af57f45b661dfb7c9fffbdbdcf5e1d42e498fa50d0e9a7ebac55"), looks := false }, kinds := [], alts := [], laidByText := true, laidKinds := [.data, .data, .pinned, .pinned, .pinned], laidTests := true, laidLooks := .later }
def ManifestMakesUptoCardSaid : Prop := Claim7.holds Tryd.pinned (.plain (OpenSpec.upto manifestMakesSpec)) manifestMakesUptoCard

/-- THE SECOND FORM's CARD OF 'bootjacklaw13.ManifestSpans'. -/
def manifestSpansUptoCard : Claim7 := { stood := { row := manifestSpansUptoRow, standIns := [], harness := (true, "df78a3862381af57f45b661dfb7c9fffbdbdcf5e1d42e498fa50d0e9a7ebac55"), looks := false }, kinds := [], alts := [], laidByText := true, laidKinds := [.data, .data, .pinned, .pinned, .pinned], laidTests := true, laidLooks := .later }
def ManifestSpansUptoCardSaid : Prop := Claim7.holds Tryd.pinned (.plain (OpenSpec.upto manifestSpansSpec)) manifestSpansUptoCard

/-- THE SECOND FORM's CARD OF 'bootjacklaw13.ManifestCuts'. -/
def manifestCutsUptoCard : Claim7 := { stood := { row := manifestCutsUptoRow, standIns := [], harness := (true, "df78a3862381af57f45b661dfb7c9fffbdbdcf5e1d42e498fa50d0e9a7ebac55"), looks := false }, kinds := [], alts := [], laidByText := true, laidKinds := [.data, .data, .pinned, .pinned, .pinned], laidTests := true, laidLooks := .later }
def ManifestCutsUptoCardSaid : Prop := Claim7.holds Tryd.pinned (.plain (OpenSpec.upto manifestCutsSpec)) manifestCutsUptoCard

/-- THE SECOND FORM's CARD OF 'bootjacklaw13.ManifestImage'. -/
def manifestImageUptoCard : Claim7 := { stood := { row := manifestImageUptoRow, standIns := [], harness := (true, "df78a3862381af57f45b661dfb7c9fffbdbdcf5e1d42e498fa50d0e9a7ebac55"), looks := false }, kinds := [], alts := [], laidByText := true, laidKinds := [.data, .data, .pinned, .pinned, .pinned], laidTests := true, laidLooks := .later }
def ManifestImageUptoCardSaid : Prop := Claim7.holds Tryd.pinned (.plain (OpenSpec.upto manifestImageSpec)) manifestImageUptoCard

/-- THE SECOND FORM's CARD OF 'bootjacklaw13.ManifestNames'. -/
def manifestNamesUptoCard : Claim7 := { stood := { row := manifestNamesUptoRow, standIns := [], harness := (true, "df78a3862381af57f45b661dfb7c9fffbdbdcf5e1d42e498fa50d0e9a7ebac55"), looks := false }, kinds := [], alts := [], laidByText := true, laidKinds := [.data, .data, .data, .data, .data, .pinned, .pinned, .pinned], laidTests := true, laidLooks := .later }
def ManifestNamesUptoCardSaid : Prop := Claim7.holds Tryd.pinned (.plain (OpenSpec.upto manifestNamesSpec)) manifestNamesUptoCard

/-- THE SECOND FORM's CARD OF 'bootjacklaw13.ManifestTells'. -/
def manifestTellsUptoCard : Claim7 := { stood := { row := manifestTellsUptoRow, standIns := [], harness := (true, "df78a3862381af57f45b661dfb7c9fffbdbdcf5e1d42e498fa50d0e9a7ebac55"), looks := false }, kinds := [], alts := [], laidByText := true, laidKinds := [.data, .data, .data, .data, .data, .pinned, .pinned, .pinned], laidTests := true, laidLooks := .later }
def ManifestTellsUptoCardSaid : Prop := Claim7.holds Tryd.pinned (.plain (OpenSpec.upto manifestTellsSpec)) manifestTellsUptoCard
end Rows
end Go.Proofs.YtfbffmckmchbbaaDoor
