/-
  DERIVED. GIVEN WITH THE SEED: THE CARDS: each row of YtjcekmmieihllaaDoorRows.lean that lists a variable, with what it lists TIED to the program's text (the seventh form; the later family's looks); each row that meets fmt, with fmt's text TOLD by the authors' own Lean function (tested against real Go, not proved from fmt's source: count such statements apart). THE CARD IS WHAT COUNTS. Prove the row's statement (the work); the ties are given (YtjcekmmieihllaaDoorTie.lean); close each card by the builder's one call (the guide's Derived/Test/ToyasCard.lean, 'card_holds'). Laid BY PROGRAM, IN A SANDBOX (cutbox-door.mjs). By AI agents, Wed Nov 11 2026. No macro, syntax, notation, axiom, sorry.
-/
import Derived.Test.YtjcekmmieihllaaDoorRows
import GoSem.ClaimSeven
namespace Go.Proofs.YtjcekmmieihllaaDoor
namespace Rows

/-- THE TIED CARD OF 'bootjacklaw24.CallTexts'. -/
def callTextsCard : Claim7 := { stood := { row := callTextsRow, standIns := [], harness := (true, "4d657cba229706ef98f314c7278d93c8b4f360cb3752a0f6c0aa6783d1eeb95e"), looks := true }, kinds := [], alts := [], laidByText := true, laidKinds := [.data, .data, .data, .data, .sentinel, .sentinel, .data, .widerDeep, .pinned, .pinned, .pinned], laidTests := true, laidLooks := .later }
def CallTextsCardSaid : Prop := Claim7.holds Tryd.pinned (.plain (OpenSpec.ofChange callTextsSpec)) callTextsCard

/-- THE TIED CARD OF 'bootjacklaw24.CallOnce'. -/
def callOnceCard : Claim7 := { stood := { row := callOnceRow, standIns := [], harness := (true, "4d657cba229706ef98f314c7278d93c8b4f360cb3752a0f6c0aa6783d1eeb95e"), looks := true }, kinds := [], alts := [], laidByText := true, laidKinds := [.data, .data, .data, .data, .sentinel, .sentinel, .data, .widerDeep, .pinned, .pinned, .pinned], laidTests := true, laidLooks := .later }
def CallOnceCardSaid : Prop := Claim7.holds Tryd.pinned (.plain (OpenSpec.ofChange callOnceSpec)) callOnceCard

/-- THE TIED CARD OF 'bootjacklaw24.CallNames'. -/
def callNamesCard : Claim7 := { stood := { row := callNamesRow, standIns := [], harness := (true, "4d657cba229706ef98f314c7278d93c8b4f360cb3752a0f6c0aa6783d1eeb95e"), looks := true }, kinds := [], alts := [], laidByText := true, laidKinds := [.data, .data, .data, .data, .sentinel, .sentinel, .data, .widerDeep, .pinned, .pinned, .pinned], laidTests := true, laidLooks := .later }
def CallNamesCardSaid : Prop := Claim7.holds Tryd.pinned (.plain (OpenSpec.ofChange callNamesSpec)) callNamesCard

/-- THE TIED CARD OF 'bootjacklaw24.CallDesk'. -/
def callDeskCard : Claim7 := { stood := { row := callDeskRow, standIns := [], harness := (true, "4d657cba229706ef98f314c7278d93c8b4f360cb3752a0f6c0aa6783d1eeb95e"), looks := true }, kinds := [], alts := [], laidByText := true, laidKinds := [.data, .data, .data, .data, .sentinel, .sentinel, .data, .widerDeep, .pinned, .pinned, .pinned], laidTests := true, laidLooks := .later }
def CallDeskCardSaid : Prop := Claim7.holds Tryd.pinned (.plain (OpenSpec.ofChange callDeskSpec)) callDeskCard

/-- THE TIED CARD OF 'bootjacklaw24.CallFair'. -/
def callFairCard : Claim7 := { stood := { row := callFairRow, standIns := [], harness := (true, "4d657cba229706ef98f314c7278d93c8b4f360cb3752a0f6c0aa6783d1eeb95e"), looks := true }, kinds := [], alts := [], laidByText := true, laidKinds := [.data, .data, .data, .data, .sentinel, .sentinel, .data, .widerDeep, .pinned, .pinned, .pinned], laidTests := true, laidLooks := .later }
def CallFairCardSaid : Prop := Claim7.holds Tryd.pinned (.plain (OpenSpec.ofChange callFairSpec)) callFairCard

/-- THE TIED CARD OF 'bootjacklaw24.CallSays'. -/
def callSaysCard : Claim7 := { stood := { row := callSaysRow, standIns := [], harness := (true, "4d657cba229706ef98f314c7278d93c8b4f360cb3752a0f6c0aa6783d1eeb95e"), looks := true }, kinds := [], alts := [], laidByText := true, laidKinds := [.data, .data, .data, .data, .sentinel, .sentinel, .data, .widerDeep, .widerDeep, .widerDeep, .data, .pinned, .pinned, .pinned], laidTests := true, laidLooks := .later }
def CallSaysCardSaid : Prop := Claim7.holds Tryd.pinned (.plain (OpenSpec.ofChange callSaysSpec)) callSaysCard

/-- THE SECOND FORM's CARD OF 'bootjacklaw24.CallTexts'. -/
def callTextsUptoCard : Claim7 := { stood := { row := callTextsUptoRow, standIns := [], harness := (true, "4d657cba229706ef98f314c7278d93c8b4f360cb3752a0f6c0aa6783d1eeb95e"), looks := true }, kinds := [], alts := [], laidByText := true, laidKinds := [.data, .data, .data, .data, .sentinel, .sentinel, .data, .widerDeep, .pinned, .pinned, .pinned], laidTests := true, laidLooks := .later }
def CallTextsUptoCardSaid : Prop := Claim7.holds Tryd.pinned (.plain (OpenSpec.upto callTextsSpec)) callTextsUptoCard

/-- THE SECOND FORM's CARD OF 'bootjacklaw24.CallOnce'. -/
def callOnceUptoCard : Claim7 := { stood := { row := callOnceUptoRow, standIns := [], harness := (true, "4d657cba229706ef98f314c7278d93c8b4f360cb3752a0f6c0aa6783d1eeb95e"), looks := true }, kinds := [], alts := [], laidByText := true, laidKinds := [.data, .data, .data, .data, .sentinel, .sentinel, .data, .widerDeep, .pinned, .pinned, .pinned], laidTests := true, laidLooks := .later }
def CallOnceUptoCardSaid : Prop := Claim7.holds Tryd.pinned (.plain (OpenSpec.upto callOnceSpec)) callOnceUptoCard

/-- THE SECOND FORM's CARD OF 'bootjacklaw24.CallNames'. -/
def callNamesUptoCard : Claim7 := { stood := { row := callNamesUptoRow, standIns := [], harness := (true, "4d657cba229706ef98f314c7278d93c8b4f360cb3752a0f6c0aa6783d1eeb95e"), looks := true }, kinds := [], alts := [], laidByText := true, laidKinds := [.data, .data, .data, .data, .sentinel, .sentinel, .data, .widerDeep, .pinned, .pinned, .pinned], laidTests := true, laidLooks := .later }
def CallNamesUptoCardSaid : Prop := Claim7.holds Tryd.pinned (.plain (OpenSpec.upto callNamesSpec)) callNamesUptoCard

/-- THE SECOND FORM's CARD OF 'bootjacklaw24.CallDesk'. -/
def callDeskUptoCard : Claim7 := { stood := { row := callDeskUptoRow, standIns := [], harness := (true, "4d657cba229706ef98f314c7278d93c8b4f360cb3752a0f6c0aa6783d1eeb95e"), looks := true }, kinds := [], alts := [], laidByText := true, laidKinds := [.data, .data, .data, .data, .sentinel, .sentinel, .data, .widerDeep, .pinned, .pinned, .pinned], laidTests := true, laidLooks := .later }
def CallDeskUptoCardSaid : Prop := Claim7.holds Tryd.pinned (.plain (OpenSpec.upto callDeskSpec)) callDeskUptoCard

/-- THE SECOND FORM's CARD OF 'bootjacklaw24.CallFair'. -/
def callFairUptoCard : Claim7 := { stood := { row := callFairUptoRow, standIns := [], harness := (true, "4d657cba229706ef98f314c7278d93c8b4f360cb3752a0f6c0aa6783d1eeb95e"), looks := true }, kinds := [], alts := [], laidByText := true, laidKinds := [.data, .data, .data, .data, .sentinel, .sentinel, .data, .widerDeep, .pinned, .pinned, .pinned], laidTests := true, laidLooks := .later }
def CallFairUptoCardSaid : Prop := Claim7.holds Tryd.pinned (.plain (OpenSpec.upto callFairSpec)) callFairUptoCard

/-- THE SECOND FORM's CARD OF 'bootjacklaw24.CallSays'. -/
def callSaysUptoCard : Claim7 := { stood := { row := callSaysUptoRow, standIns := [], harness := (true, "4d657cba229706ef98f314c7278d93c8b4f360cb3752a0f6c0aa6783d1eeb95e"), looks := true }, kinds := [], alts := [], laidByText := true, laidKinds := [.data, .data, .data, .data, .sentinel, .sentinel, .data, .widerDeep, .widerDeep, .widerDeep, .data, .pinned, .pinned, .pinned], laidTests := true, laidLooks := .later }
def CallSaysUptoCardSaid : Prop := Claim7.holds Tryd.pinned (.plain (OpenSpec.upto callSaysSpec)) callSaysUptoCard
end Rows
end Go.Proofs.YtjcekmmieihllaaDoor
