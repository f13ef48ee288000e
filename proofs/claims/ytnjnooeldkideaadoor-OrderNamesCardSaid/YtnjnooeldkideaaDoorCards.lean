/-
  DERIVED. GIVEN WITH THE SEED: THE CARDS: each row of YtnjnooeldkideaaDoorRows.lean that lists a variable, with what it lists TIED to the program's text (the seventh form; the later family's looks); each row that meets fmt, with fmt's text TOLD by the authors' own Lean function (tested against real Go, not proved from fmt's source: count such statements apart). THE CARD IS WHAT COUNTS. Prove the row's statement (the work); the ties are given (YtnjnooeldkideaaDoorTie.lean); close each card by the builder's one call (the guide's Derived/Test/ToyasCard.lean, 'card_holds'). Laid BY PROGRAM, IN A SANDBOX (cutbox-door.mjs). By AI agents, Wed Nov 11 2026. No macro, syntax, notation, axiom, sorry.
-/
import Derived.Test.YtnjnooeldkideaaDoorRows
import GoSem.ClaimSeven
namespace Go.Proofs.YtnjnooeldkideaaDoor
namespace Rows

/-- THE TIED CARD OF 'bootjacklaw26.OrderNames'. -/
def orderNamesCard : Claim7 := { stood := { row := orderNamesRow, standIns := [], harness := (true, "d187ccce890019c5c52a9513142c720fe02a62736111b5e240ab1a93dfceb667"), looks := false }, kinds := [], alts := [], laidByText := true, laidKinds := [.data, .data, .pinned, .pinned, .pinned, .pinned], laidTests := true, laidLooks := .later }
def OrderNamesCardSaid : Prop := Claim7.holds Tryd.pinned (.plain (OpenSpec.ofChange orderNamesSpec)) orderNamesCard

/-- THE TIED CARD OF 'bootjacklaw26.OrderSeen'. -/
def orderSeenCard : Claim7 := { stood := { row := orderSeenRow, standIns := [], harness := (true, "d187ccce890019c5c52a9513142c720fe02a62736111b5e240ab1a93dfceb667"), looks := false }, kinds := [], alts := [], laidByText := true, laidKinds := [.data, .data, .pinned, .pinned, .pinned, .pinned], laidTests := true, laidLooks := .later }
def OrderSeenCardSaid : Prop := Claim7.holds Tryd.pinned (.plain (OpenSpec.ofChange orderSeenSpec)) orderSeenCard

/-- THE TIED CARD OF 'bootjacklaw26.OrderTurns'. -/
def orderTurnsCard : Claim7 := { stood := { row := orderTurnsRow, standIns := [], harness := (true, "d187ccce890019c5c52a9513142c720fe02a62736111b5e240ab1a93dfceb667"), looks := false }, kinds := [], alts := [], laidByText := true, laidKinds := [.data, .data, .pinned, .pinned, .pinned, .pinned], laidTests := true, laidLooks := .later }
def OrderTurnsCardSaid : Prop := Claim7.holds Tryd.pinned (.plain (OpenSpec.ofChange orderTurnsSpec)) orderTurnsCard

/-- THE TIED CARD OF 'bootjacklaw26.OrderJobs'. -/
def orderJobsCard : Claim7 := { stood := { row := orderJobsRow, standIns := [], harness := (true, "d187ccce890019c5c52a9513142c720fe02a62736111b5e240ab1a93dfceb667"), looks := false }, kinds := [], alts := [], laidByText := true, laidKinds := [.data, .data, .pinned, .pinned, .pinned, .pinned], laidTests := true, laidLooks := .later }
def OrderJobsCardSaid : Prop := Claim7.holds Tryd.pinned (.plain (OpenSpec.ofChange orderJobsSpec)) orderJobsCard

/-- THE SECOND FORM's CARD OF 'bootjacklaw26.OrderNames'. -/
def orderNamesUptoCard : Claim7 := { stood := { row := orderNamesUptoRow, standIns := [], harness := (true, "d187ccce890019c5c52a9513142c720fe02a62736111b5e240ab1a93dfceb667"), looks := false }, kinds := [], alts := [], laidByText := true, laidKinds := [.data, .data, .pinned, .pinned, .pinned, .pinned], laidTests := true, laidLooks := .later }
def OrderNamesUptoCardSaid : Prop := Claim7.holds Tryd.pinned (.plain (OpenSpec.upto orderNamesSpec)) orderNamesUptoCard

/-- THE SECOND FORM's CARD OF 'bootjacklaw26.OrderSeen'. -/
def orderSeenUptoCard : Claim7 := { stood := { row := orderSeenUptoRow, standIns := [], harness := (true, "d187ccce890019c5c52a9513142c720fe02a62736111b5e240ab1a93dfceb667"), looks := false }, kinds := [], alts := [], laidByText := true, laidKinds := [.data, .data, .pinned, .pinned, .pinned, .pinned], laidTests := true, laidLooks := .later }
def OrderSeenUptoCardSaid : Prop := Claim7.holds Tryd.pinned (.plain (OpenSpec.upto orderSeenSpec)) orderSeenUptoCard

/-- THE SECOND FORM's CARD OF 'bootjacklaw26.OrderTurns'. -/
def orderTurnsUptoCard : Claim7 := { stood := { row := orderTurnsUptoRow, standIns := [], harness := (true, "d187ccce890019c5c52a9513142c720fe02a62736111b5e240ab1a93dfceb667"), looks := false }, kinds := [], alts := [], laidByText := true, laidKinds := [.data, .data, .pinned, .pinned, .pinned, .pinned], laidTests := true, laidLooks := .later }
def OrderTurnsUptoCardSaid : Prop := Claim7.holds Tryd.pinned (.plain (OpenSpec.upto orderTurnsSpec)) orderTurnsUptoCard

/-- THE SECOND FORM's CARD OF 'bootjacklaw26.OrderJobs'. -/
def orderJobsUptoCard : Claim7 := { stood := { row := orderJobsUptoRow, standIns := [], harness := (true, "d187ccce890019c5c52a9513142c720fe02a62736111b5e240ab1a93dfceb667"), looks := false }, kinds := [], alts := [], laidByText := true, laidKinds := [.data, .data, .pinned, .pinned, .pinned, .pinned], laidTests := true, laidLooks := .later }
def OrderJobsUptoCardSaid : Prop := Claim7.holds Tryd.pinned (.plain (OpenSpec.upto orderJobsSpec)) orderJobsUptoCard
end Rows
end Go.Proofs.YtnjnooeldkideaaDoor
