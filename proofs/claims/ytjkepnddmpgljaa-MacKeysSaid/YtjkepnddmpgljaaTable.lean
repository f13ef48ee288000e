/- digest: begin, table. -/
import Derived.Test.YtjkepnddmpgljaaRows
import Derived.Test.YtjkepnddmpgljaaMixPure
namespace Go.Proofs.Ytjkepnddmpgljaa
set_option linter.unusedVariables false
set_option linter.unusedSimpArgs false
open Go.RowKit
set_option maxRecDepth 10000 in
set_option maxHeartbeats 1000000 in
theorem table_any {W w : World} {I : Nat → Option Obj} {F : List (Nat × Obj)} (hst : St W w I F) :
    Calls Try.prog 35 #[] w fun e w' => e = .returned (.pointer (some ⟨w.heap.size, 0, none⟩)) ∧ St W w' I ((w.heap.size, .cells (part 64 kTab) 71 (0, 0)) :: F) := by
  have h1 := hst.alloc (.cells (part 64 kTab) 71)
  rw [table_cells] at h1
  have H1 := Lib.hid h1; clear h1
  go_enter Try.func35, Try.ntmps35
  go_wp2_with fail
  go_ret
  refine ⟨rfl, ?_⟩
  rw [table_cells]
  exact H1.out

set_option maxRecDepth 10000 in
set_option maxHeartbeats 1000000 in
theorem begin_any {W w : World} {I : Nat → Option Obj} {F : List (Nat × Obj)} (hst : St W w I F) :
    Calls Try.prog 28 #[] w fun e w' => e = .returned (.agg (part 8 hTab)) ∧ St W w' I F := by
  have h1 := hst.alloc_ (.cells (part 8 hTab) 56)
  rw [begin_cells] at h1
  have H1 := Lib.hid h1; clear h1
  have e1 : ((w.alloc (.cells (part 8 hTab) 56)).heap[w.heap.size]?) = some (.cells (part 8 hTab) 56 (0, 0)) := heap_alloc_new w _
  rw [begin_cells] at e1
  have E1 := Lib.hid e1; clear e1
  go_enter Try.func28, Try.ntmps28
  go_wp2_with fail
  refine bodyPost_ret (results_cell_row rfl _ _ w.heap.size 56 _ (0, 0) _ rfl E1.out Try.underlying56 (by kernel_rfl) (by kernel_rfl)) rfl ?_
  rw [begin_cells]
  exact ⟨rfl, H1.out⟩
end Go.Proofs.Ytjkepnddmpgljaa
