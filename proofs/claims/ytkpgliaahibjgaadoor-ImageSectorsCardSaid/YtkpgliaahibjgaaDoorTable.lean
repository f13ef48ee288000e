/- digest: begin, table. -/
import Derived.Test.YtkpgliaahibjgaaDoorRows
import Derived.Test.YtkpgliaahibjgaaDoorMixPure
namespace Go.Proofs.YtkpgliaahibjgaaDoor
set_option linter.unusedVariables false
set_option linter.unusedSimpArgs false
open Go.RowKit
set_option maxRecDepth 10000 in
set_option maxHeartbeats 1000000 in
theorem table_any {W w : World} {I : Nat → Option Obj} {F : List (Nat × Obj)} (hst : St W w I F) :
    Calls Tryd.prog 59 #[] w fun e w' => e = .returned (.pointer (some ⟨w.heap.size, 0, none⟩)) ∧ St W w' I ((w.heap.size, .cells (part 64 kTab) 108 (0, 0)) :: F) := by
  have h1 := hst.alloc (.cells (part 64 kTab) 108)
  rw [table_cells] at h1
  have H1 := Lib.hid h1; clear h1
  go_enter Tryd.func59, Tryd.ntmps59
  go_wp2_with fail
  go_ret
  refine ⟨rfl, ?_⟩
  rw [table_cells]
  exact H1.out

set_option maxRecDepth 10000 in
set_option maxHeartbeats 1000000 in
theorem begin_any {W w : World} {I : Nat → Option Obj} {F : List (Nat × Obj)} (hst : St W w I F) :
    Calls Tryd.prog 47 #[] w fun e w' => e = .returned (.agg (part 8 hTab)) ∧ St W w' I F := by
  have h1 := hst.alloc_ (.cells (part 8 hTab) 91)
  rw [begin_cells] at h1
  have H1 := Lib.hid h1; clear h1
  have e1 : ((w.alloc (.cells (part 8 hTab) 91)).heap[w.heap.size]?) = some (.cells (part 8 hTab) 91 (0, 0)) := heap_alloc_new w _
  rw [begin_cells] at e1
  have E1 := Lib.hid e1; clear e1
  go_enter Tryd.func47, Tryd.ntmps47
  go_wp2_with fail
  refine bodyPost_ret (results_cell_row rfl _ _ w.heap.size 91 _ (0, 0) _ rfl E1.out Tryd.underlying91 (by kernel_rfl) (by kernel_rfl)) rfl ?_
  rw [begin_cells]
  exact ⟨rfl, H1.out⟩
end Go.Proofs.YtkpgliaahibjgaaDoor
