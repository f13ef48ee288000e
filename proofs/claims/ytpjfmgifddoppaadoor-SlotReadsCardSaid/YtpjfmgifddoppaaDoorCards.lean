/-
  DERIVED. GIVEN WITH THE SEED: THE CARDS: each row of YtpjfmgifddoppaaDoorRows.lean that lists a variable, with what it lists TIED to the program's text (the seventh form; the later family's looks); each row that meets fmt, with fmt's text TOLD by the authors' own Lean function (tested against real Go, not proved from fmt's source: count such statements apart). THE CARD IS WHAT COUNTS. Prove the row's statement (the work); the ties are given (YtpjfmgifddoppaaDoorTie.lean); close each card by the builder's one call (the guide's Derived/Test/ToyasCard.lean, 'card_holds'). Laid BY PROGRAM, IN A SANDBOX (cutbox-door.mjs). By AI agents, Wed Nov 11 2026. No macro, syntax, notation, axiom, sorry.
-/
import Derived.Test.YtpjfmgifddoppaaDoorRows
import GoSem.ClaimSeven
namespace Go.Proofs.YtpjfmgifddoppaaDoor
namespace Rows

/-- THE TIED CARD OF 'bootjacklaw10.SlotMoves'. -/
def slotMovesCard : Claim7 := { stood := { row := slotMovesRow, standIns := [], harness := (true, "252230fb774a6f1e2748d9d950552bb6e98423933470f7bf22b11fbd43a5fdde"), looks := true }, kinds := [], alts := [], laidByText := true, laidKinds := [.data, .data, .data, .sentinel, .sentinel, .widerDeep], laidTests := true, laidLooks := .later }
def SlotMovesCardSaid : Prop := Claim7.holds Tryd.pinned (.plain (OpenSpec.ofChange slotMovesSpec)) slotMovesCard

/-- THE TIED CARD OF 'bootjacklaw10.SlotTries'. -/
def slotTriesCard : Claim7 := { stood := { row := slotTriesRow, standIns := [], harness := (true, "252230fb774a6f1e2748d9d950552bb6e98423933470f7bf22b11fbd43a5fdde"), looks := true }, kinds := [], alts := [], laidByText := true, laidKinds := [.data, .data, .data, .sentinel, .sentinel, .widerDeep], laidTests := true, laidLooks := .later }
def SlotTriesCardSaid : Prop := Claim7.holds Tryd.pinned (.plain (OpenSpec.ofChange slotTriesSpec)) slotTriesCard

/-- THE TIED CARD OF 'bootjacklaw04.GlyphReads'. -/
def glyphReadsCard : Claim7 := { stood := { row := glyphReadsRow, standIns := [], harness := (true, "252230fb774a6f1e2748d9d950552bb6e98423933470f7bf22b11fbd43a5fdde"), looks := true }, kinds := [], alts := [], laidByText := true, laidKinds := [.data, .data, .data, .data, .sentinel, .sentinel, .pinned], laidTests := true, laidLooks := .later }
def GlyphReadsCardSaid : Prop := Claim7.holds Tryd.pinned (.plain (OpenSpec.ofChange glyphReadsSpec)) glyphReadsCard

/-- THE TIED CARD OF 'bootjacklaw10.SlotTells'. -/
def slotTellsCard : Claim7 := { stood := { row := slotTellsRow, standIns := [], harness := (true, "252230fb774a6f1e2748d9d950552bb6e98423933470f7bf22b11fbd43a5fdde"), looks := true }, kinds := [], alts := [], laidByText := true, laidKinds := [.data, .data, .data, .sentinel, .sentinel, .widerDeep], laidTests := true, laidLooks := .later }
def SlotTellsCardSaid : Prop := Claim7.holds Tryd.pinned (.plain (OpenSpec.ofChange slotTellsSpec)) slotTellsCard

/-- THE TIED CARD OF 'bootjacklaw10.SlotApart'. -/
def slotApartCard : Claim7 := { stood := { row := slotApartRow, standIns := [], harness := (true, "252230fb774a6f1e2748d9d950552bb6e98423933470f7bf22b11fbd43a5fdde"), looks := true }, kinds := [], alts := [], laidByText := true, laidKinds := [.data, .data, .data, .sentinel, .sentinel, .widerDeep], laidTests := true, laidLooks := .later }
def SlotApartCardSaid : Prop := Claim7.holds Tryd.pinned (.plain (OpenSpec.ofChange slotApartSpec)) slotApartCard

/-- THE TIED CARD OF 'bootjacklaw04.GlyphCuts'. -/
def glyphCutsCard : Claim7 := { stood := { row := glyphCutsRow, standIns := [], harness := (true, "252230fb774a6f1e2748d9d950552bb6e98423933470f7bf22b11fbd43a5fdde"), looks := true }, kinds := [], alts := [], laidByText := true, laidKinds := [.data, .data, .data, .data, .sentinel, .sentinel, .pinned], laidTests := true, laidLooks := .later }
def GlyphCutsCardSaid : Prop := Claim7.holds Tryd.pinned (.plain (OpenSpec.ofChange glyphCutsSpec)) glyphCutsCard

/-- THE TIED CARD OF 'bootjacklaw10.SlotReads'. -/
def slotReadsCard : Claim7 := { stood := { row := slotReadsRow, standIns := [], harness := (true, "252230fb774a6f1e2748d9d950552bb6e98423933470f7bf22b11fbd43a5fdde"), looks := true }, kinds := [], alts := [], laidByText := true, laidKinds := [.data, .data, .data, .sentinel, .sentinel, .widerDeep], laidTests := true, laidLooks := .later }
def SlotReadsCardSaid : Prop := Claim7.holds Tryd.pinned (.plain (OpenSpec.ofChange slotReadsSpec)) slotReadsCard

/-- THE TIED CARD OF 'bootjacklaw10.SlotTexts'. -/
def slotTextsCard : Claim7 := { stood := { row := slotTextsRow, standIns := [], harness := (true, "252230fb774a6f1e2748d9d950552bb6e98423933470f7bf22b11fbd43a5fdde"), looks := true }, kinds := [], alts := [], laidByText := true, laidKinds := [.data, .data, .data, .data, .sentinel, .sentinel, .widerDeep, .widerDeep, .pinned, .pinned], laidTests := true, laidLooks := .later }
def SlotTextsCardSaid : Prop := Claim7.holds Tryd.pinned (.plain (OpenSpec.ofChange slotTextsSpec)) slotTextsCard

/-- THE TIED CARD OF 'bootjacklaw10.SlotNames'. -/
def slotNamesCard : Claim7 := { stood := { row := slotNamesRow, standIns := [], harness := (true, "252230fb774a6f1e2748d9d950552bb6e98423933470f7bf22b11fbd43a5fdde"), looks := true }, kinds := [], alts := [], laidByText := true, laidKinds := [.data, .data, .data, .data, .sentinel, .sentinel, .widerDeep, .widerDeep, .pinned, .pinned], laidTests := true, laidLooks := .later }
def SlotNamesCardSaid : Prop := Claim7.holds Tryd.pinned (.plain (OpenSpec.ofChange slotNamesSpec)) slotNamesCard

/-- THE TIED CARD OF 'bootjacklaw04.GlyphNames'. -/
def glyphNamesCard : Claim7 := { stood := { row := glyphNamesRow, standIns := [], harness := (true, "252230fb774a6f1e2748d9d950552bb6e98423933470f7bf22b11fbd43a5fdde"), looks := true }, kinds := [], alts := [], laidByText := true, laidKinds := [.data, .data, .data, .data, .sentinel, .sentinel, .data, .pinned, .pinned, .pinned, .pinned], laidTests := true, laidLooks := .later }
def GlyphNamesCardSaid : Prop := Claim7.holds Tryd.pinned (.plain (OpenSpec.ofChange glyphNamesSpec)) glyphNamesCard

/-- THE TIED CARD OF 'bootjacklaw04.GlyphTells'. -/
def glyphTellsCard : Claim7 := { stood := { row := glyphTellsRow, standIns := [], harness := (true, "252230fb774a6f1e2748d9d950552bb6e98423933470f7bf22b11fbd43a5fdde"), looks := true }, kinds := [], alts := [], laidByText := true, laidKinds := [.data, .data, .data, .data, .sentinel, .sentinel, .data, .pinned, .pinned, .pinned, .pinned], laidTests := true, laidLooks := .later }
def GlyphTellsCardSaid : Prop := Claim7.holds Tryd.pinned (.plain (OpenSpec.ofChange glyphTellsSpec)) glyphTellsCard

/-- THE SECOND FORM's CARD OF 'bootjacklaw10.SlotMoves'. -/
def slotMovesUptoCard : Claim7 := { stood := { row := slotMovesUptoRow, standIns := [], harness := (true, "252230fb774a6f1e2748d9d950552bb6e98423933470f7bf22b11fbd43a5fdde"), looks := true }, kinds := [], alts := [], laidByText := true, laidKinds := [.data, .data, .data, .sentinel, .sentinel, .widerDeep], laidTests := true, laidLooks := .later }
def SlotMovesUptoCardSaid : Prop := Claim7.holds Tryd.pinned (.plain (OpenSpec.upto slotMovesSpec)) slotMovesUptoCard

/-- THE SECOND FORM's CARD OF 'bootjacklaw10.SlotTries'. -/
def slotTriesUptoCard : Claim7 := { stood := { row := slotTriesUptoRow, standIns := [], harness := (true, "252230fb774a6f1e2748d9d950552bb6e98423933470f7bf22b11fbd43a5fdde"), looks := true }, kinds := [], alts := [], laidByText := true, laidKinds := [.data, .data, .data, .sentinel, .sentinel, .widerDeep], laidTests := true, laidLooks := .later }
def SlotTriesUptoCardSaid : Prop := Claim7.holds Tryd.pinned (.plain (OpenSpec.upto slotTriesSpec)) slotTriesUptoCard

/-- THE SECOND FORM's CARD OF 'bootjacklaw04.GlyphReads'. -/
def glyphReadsUptoCard : Claim7 := { stood := { row := glyphReadsUptoRow, standIns := [], harness := (true, "252230fb774a6f1e2748d9d950552bb6e98423933470f7bf22b11fbd43a5fdde"), looks := true }, kinds := [], alts := [], laidByText := true, laidKinds := [.data, .data, .data, .data, .sentinel, .sentinel, .pinned], laidTests := true, laidLooks := .later }
def GlyphReadsUptoCardSaid : Prop := Claim7.holds Tryd.pinned (.plain (OpenSpec.upto glyphReadsSpec)) glyphReadsUptoCard

/-- THE SECOND FORM's CARD OF 'bootjacklaw10.SlotTells'. -/
def slotTellsUptoCard : Claim7 := { stood := { row := slotTellsUptoRow, standIns := [], harness := (true, "252230fb774a6f1e2748d9d950552bb6e98423933470f7bf22b11fbd43a5fdde"), looks := true }, kinds := [], alts := [], laidByText := true, laidKinds := [.data, .data, .data, .sentinel, .sentinel, .widerDeep], laidTests := true, laidLooks := .later }
def SlotTellsUptoCardSaid : Prop := Claim7.holds Tryd.pinned (.plain (OpenSpec.upto slotTellsSpec)) slotTellsUptoCard

/-- THE SECOND FORM's CARD OF 'bootjacklaw10.SlotApart'. -/
def slotApartUptoCard : Claim7 := { stood := { row := slotApartUptoRow, standIns := [], harness := (true, "252230fb774a6f1e2748d9d950552bb6e98423933470f7bf22b11fbd43a5fdde"), looks := true }, kinds := [], alts := [], laidByText := true, laidKinds := [.data, .data, .data, .sentinel, .sentinel, .widerDeep], laidTests := true, laidLooks := .later }
def SlotApartUptoCardSaid : Prop := Claim7.holds Tryd.pinned (.plain (OpenSpec.upto slotApartSpec)) slotApartUptoCard

/-- THE SECOND FORM's CARD OF 'bootjacklaw04.GlyphCuts'. -/
def glyphCutsUptoCard : Claim7 := { stood := { row := glyphCutsUptoRow, standIns := [], harness := (true, "252230fb774a6f1e2748d9d950552bb6e98423933470f7bf22b11fbd43a5fdde"), looks := true }, kinds := [], alts := [], laidByText := true, laidKinds := [.data, .data, .data, .data, .sentinel, .sentinel, .pinned], laidTests := true, laidLooks := .later }
def GlyphCutsUptoCardSaid : Prop := Claim7.holds Tryd.pinned (.plain (OpenSpec.upto glyphCutsSpec)) glyphCutsUptoCard

/-- THE SECOND FORM's CARD OF 'bootjacklaw10.SlotReads'. -/
def slotReadsUptoCard : Claim7 := { stood := { row := slotReadsUptoRow, standIns := [], harness := (true, "252230fb774a6f1e2748d9d950552bb6e98423933470f7bf22b11fbd43a5fdde"), looks := true }, kinds := [], alts := [], laidByText := true, laidKinds := [.data, .data, .data, .sentinel, .sentinel, .widerDeep], laidTests := true, laidLooks := .later }
def SlotReadsUptoCardSaid : Prop := Claim7.holds Tryd.pinned (.plain (OpenSpec.upto slotReadsSpec)) slotReadsUptoCard

/-- THE SECOND FORM's CARD OF 'bootjacklaw10.SlotTexts'. -/
def slotTextsUptoCard : Claim7 := { stood := { row := slotTextsUptoRow, standIns := [], harness := (true, "252230fb774a6f1e2748d9d950552bb6e98423933470f7bf22b11fbd43a5fdde"), looks := true }, kinds := [], alts := [], laidByText := true, laidKinds := [.data, .data, .data, .data, .sentinel, .sentinel, .widerDeep, .widerDeep, .pinned, .pinned], laidTests := true, laidLooks := .later }
def SlotTextsUptoCardSaid : Prop := Claim7.holds Tryd.pinned (.plain (OpenSpec.upto slotTextsSpec)) slotTextsUptoCard

/-- THE SECOND FORM's CARD OF 'bootjacklaw10.SlotNames'. -/
def slotNamesUptoCard : Claim7 := { stood := { row := slotNamesUptoRow, standIns := [], harness := (true, "252230fb774a6f1e2748d9d950552bb6e98423933470f7bf22b11fbd43a5fdde"), looks := true }, kinds := [], alts := [], laidByText := true, laidKinds := [.data, .data, .data, .data, .sentinel, .sentinel, .widerDeep, .widerDeep, .pinned, .pinned], laidTests := true, laidLooks := .later }
def SlotNamesUptoCardSaid : Prop := Claim7.holds Tryd.pinned (.plain (OpenSpec.upto slotNamesSpec)) slotNamesUptoCard

/-- THE SECOND FORM's CARD OF 'bootjacklaw04.GlyphNames'. -/
def glyphNamesUptoCard : Claim7 := { stood := { row := glyphNamesUptoRow, standIns := [], harness := (true, "252230fb774a6f1e2748d9d950552bb6e98423933470f7bf22b11fbd43a5fdde"), looks := true }, kinds := [], alts := [], laidByText := true, laidKinds := [.data, .data, .data, .data, .sentinel, .sentinel, .data, .pinned, .pinned, .pinned, .pinned], laidTests := true, laidLooks := .later }
def GlyphNamesUptoCardSaid : Prop := Claim7.holds Tryd.pinned (.plain (OpenSpec.upto glyphNamesSpec)) glyphNamesUptoCard

/-- THE SECOND FORM's CARD OF 'bootjacklaw04.GlyphTells'. -/
def glyphTellsUptoCard : Claim7 := { stood := { row := glyphTellsUptoRow, standIns := [], harness := (true, "252230fb774a6f1e2748d9d950552bb6e98423933470f7bf22b11fbd43a5fdde"), looks := true }, kinds := [], alts := [], laidByText := true, laidKinds := [.data, .data, .data, .data, .sentinel, .sentinel, .data, .pinned, .pinned, .pinned, .pinned], laidTests := true, laidLooks := .later }
def GlyphTellsUptoCardSaid : Prop := Claim7.holds Tryd.pinned (.plain (OpenSpec.upto glyphTellsSpec)) glyphTellsUptoCard
end Rows
end Go.Proofs.YtpjfmgifddoppaaDoor
