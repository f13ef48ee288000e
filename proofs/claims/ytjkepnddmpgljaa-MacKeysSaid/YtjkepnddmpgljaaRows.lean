/-
  No cell of these rows narrows 'for every input' (looked for: loops, veiled, ifaces, maps, wideKeys, modest, calm, conditions, laid).
  DERIVED. THE GIVEN ROWS OF THIS SEAT. 7 by the template 'for every input the law returns true; each argument reads behind the call as it read before'; 0 by the template 'total and deterministic' (their statements: YtjkepnddmpgljaaTotals.lean).
  GIVEN WITH THE SEED: the statements are not yours to turn. If you find one false, say at which input.
  Laid BY PROGRAM, IN A SANDBOX (cutbox-rows.mjs): the forced cells as the released guide's own fill.sh prints them over the translation c20db1d7bff9323c… (all of the seat's roots in one cut). By AI agents, Wed Nov 11 2026. No macro, syntax, notation, axiom, sorry.
-/
import Derived.Test.YtjkepnddmpgljaaChecked
import GoSem.Claim
import GoSem.ClaimJoined
import GoSem.ClaimMapViews
import Derived.JoinedTies
import Derived.KernelRfl
namespace Go.Proofs.Ytjkepnddmpgljaa
/- THE CELL 'sum', in the pinned program and in every row, IS THE sha256 OF THE DUMP (.gsa) THAT YtjkepnddmpgljaaProg.lean LOADS. Nothing in Lean hashes anything: it is a label: what it is worth is what the hold of that sum in a sandbox is worth. -/
noncomputable def Try.pinned : Pinned := { name := "ytjkepnddmpgljaa", sum := "c20db1d7bff9323c6f3d1679b892003e64fb6211e5b11e6ad25f5e4e80c3619f", checked := Try.checked }
namespace Rows
def none {H : Type} : Left H := { results := [], args := [] }

/-- 'bootjacklaw02.DigestTells': WHATEVER THE INPUT: true; the input reads as it did. -/
def digestTellsSpec : ChangeSpec := { name := "digestTells", fn := fun _ => fun
  | [d1, d2] => { results := [.lit (.bool true)], args := [d1, d2] }
  | _ => none }
def digestTellsRow : OpenClaim := { program := "ytjkepnddmpgljaa", sum := "c20db1d7bff9323c6f3d1679b892003e64fb6211e5b11e6ad25f5e4e80c3619f", func := "bootjack/bootjacklaw02.DigestTells", spec := "digestTells", inPlace := ["internal/abi.NoEscape"], apart := false }
def DigestTellsSaid : Prop := digestTellsRow.holds Try.pinned (OpenSpec.ofChange digestTellsSpec)

/-- ITS FALSE NEIGHBOUR: 'it returns false'. Refute it at one input. -/
def digestTellsWrong : ChangeSpec := { name := "digestTells", fn := fun _ => fun
  | [d1, d2] => { results := [.lit (.bool false)], args := [d1, d2] }
  | _ => none }
def DigestTellsWrongFalsely : Prop := digestTellsRow.holds Try.pinned (OpenSpec.ofChange digestTellsWrong)

/-- 'bootjacklaw02.DigestCopies': WHATEVER THE INPUT: true; the input reads as it did. -/
def digestCopiesSpec : ChangeSpec := { name := "digestCopies", fn := fun _ => fun
  | [d1, d2, d3] => { results := [.lit (.bool true)], args := [d1, d2, d3] }
  | _ => none }
def digestCopiesRow : OpenClaim := { program := "ytjkepnddmpgljaa", sum := "c20db1d7bff9323c6f3d1679b892003e64fb6211e5b11e6ad25f5e4e80c3619f", func := "bootjack/bootjacklaw02.DigestCopies", spec := "digestCopies", inPlace := ["internal/abi.NoEscape"], apart := false }
def DigestCopiesSaid : Prop := digestCopiesRow.holds Try.pinned (OpenSpec.ofChange digestCopiesSpec)

/-- ITS FALSE NEIGHBOUR: 'it returns false'. Refute it at one input. -/
def digestCopiesWrong : ChangeSpec := { name := "digestCopies", fn := fun _ => fun
  | [d1, d2, d3] => { results := [.lit (.bool false)], args := [d1, d2, d3] }
  | _ => none }
def DigestCopiesWrongFalsely : Prop := digestCopiesRow.holds Try.pinned (OpenSpec.ofChange digestCopiesWrong)

/-- 'bootjacklaw02.DigestPieces': WHATEVER THE INPUT: true; the input reads as it did. -/
def digestPiecesSpec : ChangeSpec := { name := "digestPieces", fn := fun _ => fun
  | [d1, d2] => { results := [.lit (.bool true)], args := [d1, d2] }
  | _ => none }
def digestPiecesRow : OpenClaim := { program := "ytjkepnddmpgljaa", sum := "c20db1d7bff9323c6f3d1679b892003e64fb6211e5b11e6ad25f5e4e80c3619f", func := "bootjack/bootjacklaw02.DigestPieces", spec := "digestPieces", inPlace := ["internal/abi.NoEscape"], apart := false }
def DigestPiecesSaid : Prop := digestPiecesRow.holds Try.pinned (OpenSpec.ofChange digestPiecesSpec)

/-- ITS FALSE NEIGHBOUR: 'it returns false'. Refute it at one input. -/
def digestPiecesWrong : ChangeSpec := { name := "digestPieces", fn := fun _ => fun
  | [d1, d2] => { results := [.lit (.bool false)], args := [d1, d2] }
  | _ => none }
def DigestPiecesWrongFalsely : Prop := digestPiecesRow.holds Try.pinned (OpenSpec.ofChange digestPiecesWrong)

/-- 'bootjacklaw02.DigestTexts': WHATEVER THE INPUT: true; the input reads as it did. -/
def digestTextsSpec : ChangeSpec := { name := "digestTexts", fn := fun _ => fun
  | [d1, d2] => { results := [.lit (.bool true)], args := [d1, d2] }
  | _ => none }
def digestTextsRow : OpenClaim := { program := "ytjkepnddmpgljaa", sum := "c20db1d7bff9323c6f3d1679b892003e64fb6211e5b11e6ad25f5e4e80c3619f", func := "bootjack/bootjacklaw02.DigestTexts", spec := "digestTexts", inPlace := ["internal/abi.NoEscape", "internal/bytealg.IndexByteString"], apart := false }
def DigestTextsSaid : Prop := digestTextsRow.holds Try.pinned (OpenSpec.ofChange digestTextsSpec)

/-- ITS FALSE NEIGHBOUR: 'it returns false'. Refute it at one input. -/
def digestTextsWrong : ChangeSpec := { name := "digestTexts", fn := fun _ => fun
  | [d1, d2] => { results := [.lit (.bool false)], args := [d1, d2] }
  | _ => none }
def DigestTextsWrongFalsely : Prop := digestTextsRow.holds Try.pinned (OpenSpec.ofChange digestTextsWrong)

/-- 'bootjacklaw03.MacTells': WHATEVER THE INPUT: true; the input reads as it did. -/
def macTellsSpec : ChangeSpec := { name := "macTells", fn := fun _ => fun
  | [d1, d2, d3] => { results := [.lit (.bool true)], args := [d1, d2, d3] }
  | _ => none }
def macTellsRow : OpenClaim := { program := "ytjkepnddmpgljaa", sum := "c20db1d7bff9323c6f3d1679b892003e64fb6211e5b11e6ad25f5e4e80c3619f", func := "bootjack/bootjacklaw03.MacTells", spec := "macTells", inPlace := ["internal/abi.NoEscape"], apart := false }
def MacTellsSaid : Prop := macTellsRow.holds Try.pinned (OpenSpec.ofChange macTellsSpec)

/-- ITS FALSE NEIGHBOUR: 'it returns false'. Refute it at one input. -/
def macTellsWrong : ChangeSpec := { name := "macTells", fn := fun _ => fun
  | [d1, d2, d3] => { results := [.lit (.bool false)], args := [d1, d2, d3] }
  | _ => none }
def MacTellsWrongFalsely : Prop := macTellsRow.holds Try.pinned (OpenSpec.ofChange macTellsWrong)

/-- 'bootjacklaw03.MacKeys': WHATEVER THE INPUT: true; the input reads as it did. -/
def macKeysSpec : ChangeSpec := { name := "macKeys", fn := fun _ => fun
  | [d1, d2, d3] => { results := [.lit (.bool true)], args := [d1, d2, d3] }
  | _ => none }
def macKeysRow : OpenClaim := { program := "ytjkepnddmpgljaa", sum := "c20db1d7bff9323c6f3d1679b892003e64fb6211e5b11e6ad25f5e4e80c3619f", func := "bootjack/bootjacklaw03.MacKeys", spec := "macKeys", inPlace := ["internal/abi.NoEscape"], apart := false }
def MacKeysSaid : Prop := macKeysRow.holds Try.pinned (OpenSpec.ofChange macKeysSpec)

/-- ITS FALSE NEIGHBOUR: 'it returns false'. Refute it at one input. -/
def macKeysWrong : ChangeSpec := { name := "macKeys", fn := fun _ => fun
  | [d1, d2, d3] => { results := [.lit (.bool false)], args := [d1, d2, d3] }
  | _ => none }
def MacKeysWrongFalsely : Prop := macKeysRow.holds Try.pinned (OpenSpec.ofChange macKeysWrong)

/-- 'bootjacklaw03.MacEqual': WHATEVER THE INPUT: true; the input reads as it did. -/
def macEqualSpec : ChangeSpec := { name := "macEqual", fn := fun _ => fun
  | [d1, d2, d3] => { results := [.lit (.bool true)], args := [d1, d2, d3] }
  | _ => none }
def macEqualRow : OpenClaim := { program := "ytjkepnddmpgljaa", sum := "c20db1d7bff9323c6f3d1679b892003e64fb6211e5b11e6ad25f5e4e80c3619f", func := "bootjack/bootjacklaw03.MacEqual", spec := "macEqual", inPlace := ["internal/abi.NoEscape"], apart := false }
def MacEqualSaid : Prop := macEqualRow.holds Try.pinned (OpenSpec.ofChange macEqualSpec)

/-- ITS FALSE NEIGHBOUR: 'it returns false'. Refute it at one input. -/
def macEqualWrong : ChangeSpec := { name := "macEqual", fn := fun _ => fun
  | [d1, d2, d3] => { results := [.lit (.bool false)], args := [d1, d2, d3] }
  | _ => none }
def MacEqualWrongFalsely : Prop := macEqualRow.holds Try.pinned (OpenSpec.ofChange macEqualWrong)

/- THE SECOND FORM. 'bulk': how many values and letters a reading holds, each counted each time it is reached (what is shared counts as often as it is met; a slice's spare places count too). A statement '..UptoSaid' is the law's where the arguments, and the package variables that the reading takes, are together of bulk at most 1048576: NARROWER than '..Said'. Prove '..Said' where nothing that the law and all that it calls make is longer than what came in: it says more and counts as full. Else prove '..UptoSaid'. A law counts once. -/
mutual
def uptoBulk {H : Type} : DataW H → Nat
  | .lit (.string bytes) => bytes.length + 1
  | .lit _ => 1
  | .nil => 1
  | .ptr d => uptoBulk d + 1
  | .slice elems spare => uptoBulkAll elems + uptoBulkAll spare + 1
  | .agg parts => uptoBulkAll parts + 1
  | .iface _ d => uptoBulk d + 1
  | .map entries => uptoBulkEntries entries + 1
  | .held _ => 1
def uptoBulkAll {H : Type} : List (DataW H) → Nat
  | [] => 0
  | d :: r => uptoBulk d + uptoBulkAll r
def uptoBulkEntries {H : Type} : List (Lit × DataW H) → Nat
  | [] => 0
  | x :: r => uptoBulkEntry x + uptoBulkEntries r
def uptoBulkEntry {H : Type} : Lit × DataW H → Nat
  | (.string bytes, d) => bytes.length + uptoBulk d + 1
  | (_, d) => uptoBulk d + 1
 end
def uptoSmall : (H : Type) → List (DataW H) → Bool := fun _ ds => decide (uptoBulkAll ds ≤ 1048576)
def OpenSpec.upto (s : _root_.Go.ChangeSpec) : _root_.Go.OpenSpec := { _root_.Go.OpenSpec.ofChange s with cond := some uptoSmall }

/-- 'bootjacklaw02.DigestTells', WHERE WHAT IT READS IS OF BULK AT MOST 1048576: true; the input reads as it did. -/
def digestTellsUptoRow : OpenClaim := { program := "ytjkepnddmpgljaa", sum := "c20db1d7bff9323c6f3d1679b892003e64fb6211e5b11e6ad25f5e4e80c3619f", func := "bootjack/bootjacklaw02.DigestTells", spec := "digestTells", inPlace := ["internal/abi.NoEscape"], apart := false, narrowed := true }
def DigestTellsUptoSaid : Prop := digestTellsUptoRow.holds Try.pinned (OpenSpec.upto digestTellsSpec)

/-- 'bootjacklaw02.DigestCopies', WHERE WHAT IT READS IS OF BULK AT MOST 1048576: true; the input reads as it did. -/
def digestCopiesUptoRow : OpenClaim := { program := "ytjkepnddmpgljaa", sum := "c20db1d7bff9323c6f3d1679b892003e64fb6211e5b11e6ad25f5e4e80c3619f", func := "bootjack/bootjacklaw02.DigestCopies", spec := "digestCopies", inPlace := ["internal/abi.NoEscape"], apart := false, narrowed := true }
def DigestCopiesUptoSaid : Prop := digestCopiesUptoRow.holds Try.pinned (OpenSpec.upto digestCopiesSpec)

/-- 'bootjacklaw02.DigestPieces', WHERE WHAT IT READS IS OF BULK AT MOST 1048576: true; the input reads as it did. -/
def digestPiecesUptoRow : OpenClaim := { program := "ytjkepnddmpgljaa", sum := "c20db1d7bff9323c6f3d1679b892003e64fb6211e5b11e6ad25f5e4e80c3619f", func := "bootjack/bootjacklaw02.DigestPieces", spec := "digestPieces", inPlace := ["internal/abi.NoEscape"], apart := false, narrowed := true }
def DigestPiecesUptoSaid : Prop := digestPiecesUptoRow.holds Try.pinned (OpenSpec.upto digestPiecesSpec)

/-- 'bootjacklaw02.DigestTexts', WHERE WHAT IT READS IS OF BULK AT MOST 1048576: true; the input reads as it did. -/
def digestTextsUptoRow : OpenClaim := { program := "ytjkepnddmpgljaa", sum := "c20db1d7bff9323c6f3d1679b892003e64fb6211e5b11e6ad25f5e4e80c3619f", func := "bootjack/bootjacklaw02.DigestTexts", spec := "digestTexts", inPlace := ["internal/abi.NoEscape", "internal/bytealg.IndexByteString"], apart := false, narrowed := true }
def DigestTextsUptoSaid : Prop := digestTextsUptoRow.holds Try.pinned (OpenSpec.upto digestTextsSpec)

/-- 'bootjacklaw03.MacTells', WHERE WHAT IT READS IS OF BULK AT MOST 1048576: true; the input reads as it did. -/
def macTellsUptoRow : OpenClaim := { program := "ytjkepnddmpgljaa", sum := "c20db1d7bff9323c6f3d1679b892003e64fb6211e5b11e6ad25f5e4e80c3619f", func := "bootjack/bootjacklaw03.MacTells", spec := "macTells", inPlace := ["internal/abi.NoEscape"], apart := false, narrowed := true }
def MacTellsUptoSaid : Prop := macTellsUptoRow.holds Try.pinned (OpenSpec.upto macTellsSpec)

/-- 'bootjacklaw03.MacKeys', WHERE WHAT IT READS IS OF BULK AT MOST 1048576: true; the input reads as it did. -/
def macKeysUptoRow : OpenClaim := { program := "ytjkepnddmpgljaa", sum := "c20db1d7bff9323c6f3d1679b892003e64fb6211e5b11e6ad25f5e4e80c3619f", func := "bootjack/bootjacklaw03.MacKeys", spec := "macKeys", inPlace := ["internal/abi.NoEscape"], apart := false, narrowed := true }
def MacKeysUptoSaid : Prop := macKeysUptoRow.holds Try.pinned (OpenSpec.upto macKeysSpec)

/-- 'bootjacklaw03.MacEqual', WHERE WHAT IT READS IS OF BULK AT MOST 1048576: true; the input reads as it did. -/
def macEqualUptoRow : OpenClaim := { program := "ytjkepnddmpgljaa", sum := "c20db1d7bff9323c6f3d1679b892003e64fb6211e5b11e6ad25f5e4e80c3619f", func := "bootjack/bootjacklaw03.MacEqual", spec := "macEqual", inPlace := ["internal/abi.NoEscape"], apart := false, narrowed := true }
def MacEqualUptoSaid : Prop := macEqualUptoRow.holds Try.pinned (OpenSpec.upto macEqualSpec)

end Rows
end Go.Proofs.Ytjkepnddmpgljaa
