/-
  No cell of these rows narrows 'for every input' (looked for: loops, veiled, ifaces, maps, wideKeys, modest, calm, conditions, laid).
  DERIVED. THE GIVEN ROWS OF THIS SEAT. 5 by the template 'for every input the law returns true; each argument reads behind the call as it read before'; 0 by the template 'total and deterministic' (their statements: YtlhplndngfffoaaTotals.lean).
  GIVEN WITH THE SEED: the statements are not yours to turn. If you find one false, say at which input.
  Laid BY PROGRAM, IN A SANDBOX (cutbox-rows.mjs): the forced cells as the released guide's own fill.sh prints them over the translation f1d12784462803dd… (all of the seat's roots in one cut). By AI agents, Wed Nov 11 2026. No macro, syntax, notation, axiom, sorry.
-/
import Derived.Test.YtlhplndngfffoaaChecked
import GoSem.Claim
import GoSem.ClaimJoined
import GoSem.ClaimMapViews
import Derived.JoinedTies
import Derived.KernelRfl
namespace Go.Proofs.Ytlhplndngfffoaa
/- THE CELL 'sum', in the pinned program and in every row, IS THE sha256 OF THE DUMP (.gsa) THAT YtlhplndngfffoaaProg.lean LOADS. Nothing in Lean hashes anything: it is a label: what it is worth is what the hold of that sum in a sandbox is worth. -/
noncomputable def Try.pinned : Pinned := { name := "ytlhplndngfffoaa", sum := "f1d12784462803dd17a8fc2d4d14c5b90ed5539ac79ab192860b81bd413b06cf", checked := Try.checked }
namespace Rows
def none {H : Type} : Left H := { results := [], args := [] }

/-- 'bootjacklaw17.RingOrder': WHATEVER THE INPUT: true; the input reads as it did. -/
def ringOrderSpec : ChangeSpec := { name := "ringOrder", fn := fun _ => fun
  | [d1, d2] => { results := [.lit (.bool true)], args := [d1, d2] }
  | _ => none }
def ringOrderRow : OpenClaim := { program := "ytlhplndngfffoaa", sum := "f1d12784462803dd17a8fc2d4d14c5b90ed5539ac79ab192860b81bd413b06cf", func := "bootjack/bootjacklaw17.RingOrder", spec := "ringOrder", apart := false }
def RingOrderSaid : Prop := ringOrderRow.holds Try.pinned (OpenSpec.ofChange ringOrderSpec)

/-- ITS FALSE NEIGHBOUR: 'it returns false'. Refute it at one input. -/
def ringOrderWrong : ChangeSpec := { name := "ringOrder", fn := fun _ => fun
  | [d1, d2] => { results := [.lit (.bool false)], args := [d1, d2] }
  | _ => none }
def RingOrderWrongFalsely : Prop := ringOrderRow.holds Try.pinned (OpenSpec.ofChange ringOrderWrong)

/-- 'bootjacklaw17.RingKinds': WHATEVER THE INPUT: true; the input reads as it did. -/
def ringKindsSpec : ChangeSpec := { name := "ringKinds", fn := fun _ => fun
  | [d1, d2, d3] => { results := [.lit (.bool true)], args := [d1, d2, d3] }
  | _ => none }
def ringKindsRow : OpenClaim := { program := "ytlhplndngfffoaa", sum := "f1d12784462803dd17a8fc2d4d14c5b90ed5539ac79ab192860b81bd413b06cf", func := "bootjack/bootjacklaw17.RingKinds", spec := "ringKinds", apart := false }
def RingKindsSaid : Prop := ringKindsRow.holds Try.pinned (OpenSpec.ofChange ringKindsSpec)

/-- ITS FALSE NEIGHBOUR: 'it returns false'. Refute it at one input. -/
def ringKindsWrong : ChangeSpec := { name := "ringKinds", fn := fun _ => fun
  | [d1, d2, d3] => { results := [.lit (.bool false)], args := [d1, d2, d3] }
  | _ => none }
def RingKindsWrongFalsely : Prop := ringKindsRow.holds Try.pinned (OpenSpec.ofChange ringKindsWrong)

/-- 'bootjacklaw17.RingNames': WHATEVER THE INPUT: true; the input reads as it did. -/
def ringNamesSpec : ChangeSpec := { name := "ringNames", fn := fun _ => fun
  | [] => { results := [.lit (.bool true)], args := [] }
  | _ => none }
def ringNamesRow : OpenClaim := { program := "ytlhplndngfffoaa", sum := "f1d12784462803dd17a8fc2d4d14c5b90ed5539ac79ab192860b81bd413b06cf", func := "bootjack/bootjacklaw17.RingNames", spec := "ringNames", apart := false }
def RingNamesSaid : Prop := ringNamesRow.holds Try.pinned (OpenSpec.ofChange ringNamesSpec)

/-- ITS FALSE NEIGHBOUR: 'it returns false'. Refute it at one input. -/
def ringNamesWrong : ChangeSpec := { name := "ringNames", fn := fun _ => fun
  | [] => { results := [.lit (.bool false)], args := [] }
  | _ => none }
def RingNamesWrongFalsely : Prop := ringNamesRow.holds Try.pinned (OpenSpec.ofChange ringNamesWrong)

/-- 'bootjacklaw17.RingRuns': WHATEVER THE INPUT: true; the input reads as it did. -/
def ringRunsSpec : ChangeSpec := { name := "ringRuns", fn := fun _ => fun
  | [d1, d2] => { results := [.lit (.bool true)], args := [d1, d2] }
  | _ => none }
def ringRunsRow : OpenClaim := { program := "ytlhplndngfffoaa", sum := "f1d12784462803dd17a8fc2d4d14c5b90ed5539ac79ab192860b81bd413b06cf", func := "bootjack/bootjacklaw17.RingRuns", spec := "ringRuns", apart := false }
def RingRunsSaid : Prop := ringRunsRow.holds Try.pinned (OpenSpec.ofChange ringRunsSpec)

/-- ITS FALSE NEIGHBOUR: 'it returns false'. Refute it at one input. -/
def ringRunsWrong : ChangeSpec := { name := "ringRuns", fn := fun _ => fun
  | [d1, d2] => { results := [.lit (.bool false)], args := [d1, d2] }
  | _ => none }
def RingRunsWrongFalsely : Prop := ringRunsRow.holds Try.pinned (OpenSpec.ofChange ringRunsWrong)

/-- 'bootjacklaw17.RingWalks': WHATEVER THE INPUT: true; the input reads as it did. -/
def ringWalksSpec : ChangeSpec := { name := "ringWalks", fn := fun _ => fun
  | [d1, d2, d3] => { results := [.lit (.bool true)], args := [d1, d2, d3] }
  | _ => none }
def ringWalksRow : OpenClaim := { program := "ytlhplndngfffoaa", sum := "f1d12784462803dd17a8fc2d4d14c5b90ed5539ac79ab192860b81bd413b06cf", func := "bootjack/bootjacklaw17.RingWalks", spec := "ringWalks", unfollowed := true, recurses := true, apart := false }
def RingWalksSaid : Prop := ringWalksRow.holds Try.pinned (OpenSpec.ofChange ringWalksSpec)

/-- ITS FALSE NEIGHBOUR: 'it returns false'. Refute it at one input. -/
def ringWalksWrong : ChangeSpec := { name := "ringWalks", fn := fun _ => fun
  | [d1, d2, d3] => { results := [.lit (.bool false)], args := [d1, d2, d3] }
  | _ => none }
def RingWalksWrongFalsely : Prop := ringWalksRow.holds Try.pinned (OpenSpec.ofChange ringWalksWrong)

/- THE SECOND FORM. 'bulk': how many values and letters a reading holds, each counted each time it is reached (what is shared counts as often as it is met; a slice's spare places count too). A statement '..UptoSaid' is the law's where the arguments, and the package variables that the reading takes, are together of bulk at most 1048576: NARROWER than '..Said'. Prove '..Said' where nothing that the law and all that it calls make is longer than what came in: it says more and counts as full. Else prove '..UptoSaid'. A law counts once. -/
mutual
def uptoBulk {H : Type} : DataW H → Nat
  | .lit (.string bytes) => bytes.length + 1
  | .lit _ => 1
  | .nil => 1
  | .ptr d => uptoBulk d + 1
  | .slice elems spare => uptoBulkAll elems + uptoBulkAll spare + 1
  | .agg parts => uptoBulkAll parts + 1
  | .iface _ d => uptoBulk d + 1
  | .map entries => uptoBulkEntries entries + 1
  | .held _ => 1
def uptoBulkAll {H : Type} : List (DataW H) → Nat
  | [] => 0
  | d :: r => uptoBulk d + uptoBulkAll r
def uptoBulkEntries {H : Type} : List (Lit × DataW H) → Nat
  | [] => 0
  | x :: r => uptoBulkEntry x + uptoBulkEntries r
def uptoBulkEntry {H : Type} : Lit × DataW H → Nat
  | (.string bytes, d) => bytes.length + uptoBulk d + 1
  | (_, d) => uptoBulk d + 1
 end
def uptoSmall : (H : Type) → List (DataW H) → Bool := fun _ ds => decide (uptoBulkAll ds ≤ 1048576)
def OpenSpec.upto (s : _root_.Go.ChangeSpec) : _root_.Go.OpenSpec := { _root_.Go.OpenSpec.ofChange s with cond := some uptoSmall }

/-- 'bootjacklaw17.RingOrder', WHERE WHAT IT READS IS OF BULK AT MOST 1048576: true; the input reads as it did. -/
def ringOrderUptoRow : OpenClaim := { program := "ytlhplndngfffoaa", sum := "f1d12784462803dd17a8fc2d4d14c5b90ed5539ac79ab192860b81bd413b06cf", func := "bootjack/bootjacklaw17.RingOrder", spec := "ringOrder", apart := false, narrowed := true }
def RingOrderUptoSaid : Prop := ringOrderUptoRow.holds Try.pinned (OpenSpec.upto ringOrderSpec)

/-- 'bootjacklaw17.RingKinds', WHERE WHAT IT READS IS OF BULK AT MOST 1048576: true; the input reads as it did. -/
def ringKindsUptoRow : OpenClaim := { program := "ytlhplndngfffoaa", sum := "f1d12784462803dd17a8fc2d4d14c5b90ed5539ac79ab192860b81bd413b06cf", func := "bootjack/bootjacklaw17.RingKinds", spec := "ringKinds", apart := false, narrowed := true }
def RingKindsUptoSaid : Prop := ringKindsUptoRow.holds Try.pinned (OpenSpec.upto ringKindsSpec)

/-- 'bootjacklaw17.RingNames', WHERE WHAT IT READS IS OF BULK AT MOST 1048576: true; the input reads as it did. -/
def ringNamesUptoRow : OpenClaim := { program := "ytlhplndngfffoaa", sum := "f1d12784462803dd17a8fc2d4d14c5b90ed5539ac79ab192860b81bd413b06cf", func := "bootjack/bootjacklaw17.RingNames", spec := "ringNames", apart := false, narrowed := true }
def RingNamesUptoSaid : Prop := ringNamesUptoRow.holds Try.pinned (OpenSpec.upto ringNamesSpec)

/-- 'bootjacklaw17.RingRuns', WHERE WHAT IT READS IS OF BULK AT MOST 1048576: true; the input reads as it did. -/
def ringRunsUptoRow : OpenClaim := { program := "ytlhplndngfffoaa", sum := "f1d12784462803dd17a8fc2d4d14c5b90ed5539ac79ab192860b81bd413b06cf", func := "bootjack/bootjacklaw17.RingRuns", spec := "ringRuns", apart := false, narrowed := true }
def RingRunsUptoSaid : Prop := ringRunsUptoRow.holds Try.pinned (OpenSpec.upto ringRunsSpec)

/-- 'bootjacklaw17.RingWalks', WHERE WHAT IT READS IS OF BULK AT MOST 1048576: true; the input reads as it did. -/
def ringWalksUptoRow : OpenClaim := { program := "ytlhplndngfffoaa", sum := "f1d12784462803dd17a8fc2d4d14c5b90ed5539ac79ab192860b81bd413b06cf", func := "bootjack/bootjacklaw17.RingWalks", spec := "ringWalks", unfollowed := true, recurses := true, apart := false, narrowed := true }
def RingWalksUptoSaid : Prop := ringWalksUptoRow.holds Try.pinned (OpenSpec.upto ringWalksSpec)

end Rows
end Go.Proofs.Ytlhplndngfffoaa
