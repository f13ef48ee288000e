/-
  DERIVED. GIVEN WITH THE SEED: THE CARDS: each row of YtnjnooeldkideaaGreatDoorRows.lean that lists a variable, with what it lists TIED to the program's text (the seventh form; the later family's looks); each row that meets fmt, with fmt's text TOLD by the authors' own Lean function (tested against real Go, not proved from fmt's source: count such statements apart). THE CARD IS WHAT COUNTS. Prove the row's statement (the work); the ties are given (YtnjnooeldkideaaGreatDoorTie.lean); close each card by the builder's one call (the guide's Derived/Test/ToyasCard.lean, 'card_holds'). Laid BY PROGRAM, IN A SANDBOX (cutbox-door.mjs). By AI agents, Wed Nov 11 2026. No macro, syntax, notation, axiom, sorry.
-/
import Derived.Test.YtnjnooeldkideaaGreatDoorRows
import GoSem.ClaimSeven
namespace Go.Proofs.YtnjnooeldkideaaGreatDoor
namespace Rows

/-- THE TIED CARD OF 'bootjacklaw26.OrderChecks'. -/
def orderChecksCard : Claim7 := { stood := { row := orderChecksRow, standIns := [], harness := (true, "7dc65b39f55cb29f2212e58d75cb4ae75792862a54de35d7d4c5f2bb819411fc"), looks := false }, kinds := [], alts := [], laidByText := true, laidKinds := [.data, .data, .pinned, .pinned, .pinned, .pinned], laidTests := true, laidLooks := .later }
def OrderChecksCardSaid : Prop := Claim7.holds Tryz.pinned (.plain (OpenSpec.ofChange orderChecksSpec)) orderChecksCard

/-- THE TIED CARD OF 'bootjacklaw26.OrderFinds'. -/
def orderFindsCard : Claim7 := { stood := { row := orderFindsRow, standIns := [], harness := (true, "7dc65b39f55cb29f2212e58d75cb4ae75792862a54de35d7d4c5f2bb819411fc"), looks := false }, kinds := [], alts := [], laidByText := true, laidKinds := [.data, .data, .pinned, .pinned, .pinned, .pinned], laidTests := true, laidLooks := .later }
def OrderFindsCardSaid : Prop := Claim7.holds Tryz.pinned (.plain (OpenSpec.ofChange orderFindsSpec)) orderFindsCard

/-- THE TIED CARD OF 'bootjacklaw26.OrderDoes'. -/
def orderDoesCard : Claim7 := { stood := { row := orderDoesRow, standIns := [], harness := (true, "7dc65b39f55cb29f2212e58d75cb4ae75792862a54de35d7d4c5f2bb819411fc"), looks := false }, kinds := [], alts := [], laidByText := true, laidKinds := [.data, .data, .pinned, .pinned, .pinned, .pinned], laidTests := true, laidLooks := .later }
def OrderDoesCardSaid : Prop := Claim7.holds Tryz.pinned (.plain (OpenSpec.ofChange orderDoesSpec)) orderDoesCard

/-- THE TIED CARD OF 'bootjacklaw26.OrderReplies'. -/
def orderRepliesCard : Claim7 := { stood := { row := orderRepliesRow, standIns := [], harness := (true, "7dc65b39f55cb29f2212e58d75cb4ae75792862a54de35d7d4c5f2bb819411fc"), looks := false }, kinds := [], alts := [], laidByText := true, laidKinds := [.data, .data, .pinned, .pinned, .pinned, .pinned], laidTests := true, laidLooks := .later }
def OrderRepliesCardSaid : Prop := Claim7.holds Tryz.pinned (.plain (OpenSpec.ofChange orderRepliesSpec)) orderRepliesCard

/-- THE SECOND FORM's CARD OF 'bootjacklaw26.OrderChecks'. -/
def orderChecksUptoCard : Claim7 := { stood := { row := orderChecksUptoRow, standIns := [], harness := (true, "7dc65b39f55cb29f2212e58d75cb4ae75792862a54de35d7d4c5f2bb819411fc"), looks := false }, kinds := [], alts := [], laidByText := true, laidKinds := [.data, .data, .pinned, .pinned, .pinned, .pinned], laidTests := true, laidLooks := .later }
def OrderChecksUptoCardSaid : Prop := Claim7.holds Tryz.pinned (.plain (OpenSpec.upto orderChecksSpec)) orderChecksUptoCard

/-- THE SECOND FORM's CARD OF 'bootjacklaw26.OrderFinds'. -/
def orderFindsUptoCard : Claim7 := { stood := { row := orderFindsUptoRow, standIns := [], harness := (true, "7dc65b39f55cb29f2212e58d75cb4ae75792862a54de35d7d4c5f2bb819411fc"), looks := false }, kinds := [], alts := [], laidByText := true, laidKinds := [.data, .data, .pinned, .pinned, .pinned, .pinned], laidTests := true, laidLooks := .later }
def OrderFindsUptoCardSaid : Prop := Claim7.holds Tryz.pinned (.plain (OpenSpec.upto orderFindsSpec)) orderFindsUptoCard

/-- THE SECOND FORM's CARD OF 'bootjacklaw26.OrderDoes'. -/
def orderDoesUptoCard : Claim7 := { stood := { row := orderDoesUptoRow, standIns := [], harness := (true, "7dc65b39f55cb29f2212e58d75cb4ae75792862a54de35d7d4c5f2bb819411fc"), looks := false }, kinds := [], alts := [], laidByText := true, laidKinds := [.data, .data, .pinned, .pinned, .pinned, .pinned], laidTests := true, laidLooks := .later }
def OrderDoesUptoCardSaid : Prop := Claim7.holds Tryz.pinned (.plain (OpenSpec.upto orderDoesSpec)) orderDoesUptoCard

/-- THE SECOND FORM's CARD OF 'bootjacklaw26.OrderReplies'. -/
def orderRepliesUptoCard : Claim7 := { stood := { row := orderRepliesUptoRow, standIns := [], harness := (true, "7dc65b39f55cb29f2212e58d75cb4ae75792862a54de35d7d4c5f2bb819411fc"), looks := false }, kinds := [], alts := [], laidByText := true, laidKinds := [.data, .data, .pinned, .pinned, .pinned, .pinned], laidTests := true, laidLooks := .later }
def OrderRepliesUptoCardSaid : Prop := Claim7.holds Tryz.pinned (.plain (OpenSpec.upto orderRepliesSpec)) orderRepliesUptoCard
end Rows
end Go.Proofs.YtnjnooeldkideaaGreatDoor
