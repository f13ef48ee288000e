/-
  DERIVED. GIVEN WITH THE SEED: THE CARDS: each row of YtjmdhljhlcbneaaDoorRows.lean that lists a variable, with what it lists TIED to the program's text (the seventh form; the later family's looks); each row that meets fmt, with fmt's text TOLD by the authors' own Lean function (tested against real Go, not proved from fmt's source: count such statements apart). THE CARD IS WHAT COUNTS. Prove the row's statement (the work); the ties are given (YtjmdhljhlcbneaaDoorTie.lean); close each card by the builder's one call (the guide's Derived/Test/ToyasCard.lean, 'card_holds'). Laid BY PROGRAM, IN A SANDBOX (cutbox-door.mjs). By AI agents, Wed Nov 11 2026. No macro, syntax, notation, axiom, sorry.
-/
import Derived.Test.YtjmdhljhlcbneaaDoorRows
import GoSem.ClaimSeven
namespace Go.Proofs.YtjmdhljhlcbneaaDoor
namespace Rows

/-- THE TIED CARD OF 'bootjacklaw18.NetWhole'. -/
def netWholeCard : Claim7 := { stood := { row := netWholeRow, standIns := [], harness := (true, "aa61a52edfa56d21a7382a988c8d817514fff18f45beb3bfa5c2b40e4b52460f"), looks := false }, kinds := [], alts := [], laidByText := true, laidKinds := [.data, .data, .pinned, .pinned, .pinned, .pinned], laidTests := true, laidLooks := .later }
def NetWholeCardSaid : Prop := Claim7.holds Tryd.pinned (.plain (OpenSpec.ofChange netWholeSpec)) netWholeCard

/-- THE TIED CARD OF 'bootjacklaw18.NetFaults'. -/
def netFaultsCard : Claim7 := { stood := { row := netFaultsRow, standIns := [], harness := (true, "aa61a52edfa56d21a7382a988c8d817514fff18f45beb3bfa5c2b40e4b52460f"), looks := false }, kinds := [], alts := [], laidByText := true, laidKinds := [.data, .data, .pinned, .pinned, .pinned, .pinned], laidTests := true, laidLooks := .later }
def NetFaultsCardSaid : Prop := Claim7.holds Tryd.pinned (.plain (OpenSpec.ofChange netFaultsSpec)) netFaultsCard

/-- THE TIED CARD OF 'bootjacklaw18.NetNames'. -/
def netNamesCard : Claim7 := { stood := { row := netNamesRow, standIns := [], harness := (true, "aa61a52edfa56d21a7382a988c8d817514fff18f45beb3bfa5c2b40e4b52460f"), looks := false }, kinds := [], alts := [], laidByText := true, laidKinds := [.data, .data, .pinned, .pinned, .pinned, .pinned], laidTests := true, laidLooks := .later }
def NetNamesCardSaid : Prop := Claim7.holds Tryd.pinned (.plain (OpenSpec.ofChange netNamesSpec)) netNamesCard

/-- THE TIED CARD OF 'bootjacklaw18.NetRuns'. -/
def netRunsCard : Claim7 := { stood := { row := netRunsRow, standIns := [], harness := (true, "aa61a52edfa56d21a7382a988c8d817514fff18f45beb3bfa5c2b40e4b52460f"), looks := false }, kinds := [], alts := [], laidByText := true, laidKinds := [.data, .data, .pinned, .pinned, .pinned, .pinned], laidTests := true, laidLooks := .later }
def NetRunsCardSaid : Prop := Claim7.holds Tryd.pinned (.plain (OpenSpec.ofChange netRunsSpec)) netRunsCard

/-- THE SECOND FORM's CARD OF 'bootjacklaw18.NetWhole'. -/
def netWholeUptoCard : Claim7 := { stood := { row := netWholeUptoRow, standIns := [], harness := (true, "aa61a52edfa56d21a7382a988c8d817514fff18f45beb3bfa5c2b40e4b52460f"), looks := false }, kinds := [], alts := [], laidByText := true, laidKinds := [.data, .data, .pinned, .pinned, .pinned, .pinned], laidTests := true, laidLooks := .later }
def NetWholeUptoCardSaid : Prop := Claim7.holds Tryd.pinned (.plain (OpenSpec.upto netWholeSpec)) netWholeUptoCard

/-- THE SECOND FORM's CARD OF 'bootjacklaw18.NetFaults'. -/
def netFaultsUptoCard : Claim7 := { stood := { row := netFaultsUptoRow, standIns := [], harness := (true, "aa61a52edfa56d21a7382a988c8d817514fff18f45beb3bfa5c2b40e4b52460f"), looks := false }, kinds := [], alts := [], laidByText := true, laidKinds := [.data, .data, .pinned, .pinned, .pinned, .pinned], laidTests := true, laidLooks := .later }
def NetFaultsUptoCardSaid : Prop := Claim7.holds Tryd.pinned (.plain (OpenSpec.upto netFaultsSpec)) netFaultsUptoCard

/-- THE SECOND FORM's CARD OF 'bootjacklaw18.NetNames'. -/
def netNamesUptoCard : Claim7 := { stood := { row := netNamesUptoRow, standIns := [], harness := (true, "aa61a52edfa56d21a7382a988c8d817514fff18f45beb3bfa5c2b40e4b52460f"), looks := false }, kinds := [], alts := [], laidByText := true, laidKinds := [.data, .data, .pinned, .pinned, .pinned, .pinned], laidTests := true, laidLooks := .later }
def NetNamesUptoCardSaid : Prop := Claim7.holds Tryd.pinned (.plain (OpenSpec.upto netNamesSpec)) netNamesUptoCard

/-- THE SECOND FORM's CARD OF 'bootjacklaw18.NetRuns'. -/
def netRunsUptoCard : Claim7 := { stood := { row := netRunsUptoRow, standIns := [], harness := (true, "aa61a52edfa56d21a7382a988c8d817514fff18f45beb3bfa5c2b40e4b52460f"), looks := false }, kinds := [], alts := [], laidByText := true, laidKinds := [.data, .data, .pinned, .pinned, .pinned, .pinned], laidTests := true, laidLooks := .later }
def NetRunsUptoCardSaid : Prop := Claim7.holds Tryd.pinned (.plain (OpenSpec.upto netRunsSpec)) netRunsUptoCard
end Rows
end Go.Proofs.YtjmdhljhlcbneaaDoor
