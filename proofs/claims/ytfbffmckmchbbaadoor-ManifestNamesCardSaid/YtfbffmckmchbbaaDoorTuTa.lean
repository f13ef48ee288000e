/- digest: turn. digest: begin, table. -/
import Derived.Test.YtfbffmckmchbbaaDoorRows
import Derived.Test.YtfbffmckmchbbaaDoorWords
import Derived.Deep.RegionHeld3
import Derived.Test.YtfbffmckmchbbaaDoorMixPure
namespace Go.Proofs.YtfbffmckmchbbaaDoor
section
set_option linter.unusedVariables false
set_option linter.unusedSimpArgs false
open Go.RowKit
set_option maxHeartbeats 400000 in
theorem rot (x : Wd) (n : Nat) (h1 : 1 ≤ n) (h2 : n ≤ 31) (w : World) :
    Calls Tryd.prog 114 #[.int .u32 (wv x), .int .i64 (-(n : Int))] w fun e w' => e = .returned (.int .u32 (wv (x.rotateRight n))) ∧ w = w' := by
  have e1 := and31 n h1 h2
  obtain ⟨s, hs⟩ : ∃ s, s = 32 - n := ⟨_, rfl⟩
  have hs2 : s ≤ 31 := by omega
  have hs1 : 1 ≤ s := by omega
  have e2 : min s 32 = s := by omega
  have e4 : min (32 - s) 32 = n := by omega
  have e5 : ((32 : Int) - (s : Int)).toNat = n := by omega
  have e6 : min n 32 = n := by omega
  have e3 := v_rot_ x n h1 h2
  rw [← hs] at e1 e3
  have E3 := Lib.hid e3; clear e3; have Hs := Lib.hid hs; clear hs
  go_enter Tryd.func114, Tryd.ntmps114
  go_wp2
  go_ret
  exact ⟨by rw [← E3.out]; rfl, rfl⟩

attribute [local go_sem] v_and v_or v_xor v_xor0 v_not v_add v_add_

set_option maxHeartbeats 1000000 in
theorem turn_any (x : Wd) (ns : List Nat) (hns : ∀ n ∈ ns, 1 ≤ n ∧ n ≤ 31) (b : Nat) (w : World) (hl : ns.length ≤ 10)
    (hc : ∀ k, k < ns.length → w.cell? ⟨b, k, none⟩ = some (.int .i64 (ns.getD k 0 : Int))) :
    Calls Tryd.prog 104 #[.int .u32 (wv x), .slice (some ⟨b, 0, none⟩) ns.length ns.length] w fun e w' => e = .returned (.int .u32 (wv (turnR x ns))) ∧ w = w' := by
  have H := Lib.hid hc; clear hc
  go_enter Tryd.func104, Tryd.ntmps104
  go_wp2_with fail
  go_loop [5, 10] (fun a i => ∃ k : Nat, k ≤ ns.length ∧ i = .int .i64 k ∧ a = .int .u32 (wv (turnR x (ns.take k)))) (fun _ i => ns.length - (intOf i).toNat)
  case atStart => exact ⟨0, by omega, rfl, rfl⟩
  case round =>
    obtain ⟨k, hk, rfl, rfl⟩ := hrel
    by_cases hlt : k < ns.length
    · have hck := H.out k hlt
      obtain ⟨n1, n2⟩ := hns (ns.getD k 0) (by rw [List.getD_eq_getElem?_getD, List.getElem?_eq_getElem hlt]; exact List.getElem_mem hlt)
      have hst : turnR x (ns.take (k + 1)) = turnR x (ns.take k) ^^^ x.rotateRight (ns.getD k 0) := by
        rw [List.take_add_one, List.getElem?_eq_getElem hlt, Option.toList_some, turnR_snoc, List.getD_eq_getElem?_getD, List.getElem?_eq_getElem hlt]
        rfl
      have Hst := Lib.hid hst; clear hst
      generalize ns.getD k 0 = n at *
      generalize turnR x (ns.take k) = acc at *
      go_wp2_with (go_at_call 114; refine (rot x n n1 n2 _).mono ?_; rintro e w' ⟨rfl, rfl⟩)
      go_round
      case rel => exact ⟨k + 1, by omega, by go_num, by rw [Hst.out]⟩
      case measure => simp [intOf]; omega
    · have : k = ns.length := by omega
      subst this
      go_wp2_with fail
      go_ret
      exact ⟨by rw [← List.take_length (l := ns)]; simp, rfl⟩

theorem turn2 (x : Wd) (n1 n2 : Nat) (h1 : 1 ≤ n1 ∧ n1 ≤ 31) (h2 : 1 ≤ n2 ∧ n2 ≤ 31) (b : Nat) (w : World) (c0 : w.cell? ⟨b, 0, none⟩ = some (.int .i64 n1)) (c1 : w.cell? ⟨b, 1, none⟩ = some (.int .i64 n2)) :
    Calls Tryd.prog 104 #[.int .u32 (wv x), .slice (some ⟨b, 0, none⟩) 2 2] w fun e w' => e = .returned (.int .u32 (wv (turnR x [n1, n2]))) ∧ w = w' :=
  turn_any x [n1, n2] (by simp [h1, h2]) b w (by simp) (fun k hk => by
    rcases (show k = 0 ∨ k = 1 by simp at hk; omega) with rfl | rfl
    · exact c0
    · exact c1)
theorem turn3 (x : Wd) (n1 n2 n3 : Nat) (h1 : 1 ≤ n1 ∧ n1 ≤ 31) (h2 : 1 ≤ n2 ∧ n2 ≤ 31) (h3 : 1 ≤ n3 ∧ n3 ≤ 31) (b : Nat) (w : World) (c0 : w.cell? ⟨b, 0, none⟩ = some (.int .i64 n1)) (c1 : w.cell? ⟨b, 1, none⟩ = some (.int .i64 n2)) (c2 : w.cell? ⟨b, 2, none⟩ = some (.int .i64 n3)) :
    Calls Tryd.prog 104 #[.int .u32 (wv x), .slice (some ⟨b, 0, none⟩) 3 3] w fun e w' => e = .returned (.int .u32 (wv (turnR x [n1, n2, n3]))) ∧ w = w' :=
  turn_any x [n1, n2, n3] (by simp [h1, h2, h3]) b w (by simp) (fun k hk => by
    rcases (show k = 0 ∨ k = 1 ∨ k = 2 by simp at hk; omega) with rfl | rfl | rfl
    · exact c0
    · exact c1
    · exact c2)
end

section
set_option linter.unusedVariables false
set_option linter.unusedSimpArgs false
open Go.RowKit
set_option maxRecDepth 10000 in
set_option maxHeartbeats 1000000 in
theorem table_any {W w : World} {I : Nat → Option Obj} {F : List (Nat × Obj)} (hst : St W w I F) :
    Calls Tryd.prog 103 #[] w fun e w' => e = .returned (.pointer (some ⟨w.heap.size, 0, none⟩)) ∧ St W w' I ((w.heap.size, .cells (part 64 kTab) 154 (0, 0)) :: F) := by
  have h1 := hst.alloc (.cells (part 64 kTab) 154)
  rw [table_cells] at h1
  have H1 := Lib.hid h1; clear h1
  go_enter Tryd.func103, Tryd.ntmps103
  go_wp2_with fail
  go_ret
  refine ⟨rfl, ?_⟩
  rw [table_cells]
  exact H1.out

set_option maxRecDepth 10000 in
set_option maxHeartbeats 1000000 in
theorem begin_any {W w : World} {I : Nat → Option Obj} {F : List (Nat × Obj)} (hst : St W w I F) :
    Calls Tryd.prog 88 #[] w fun e w' => e = .returned (.agg (part 8 hTab)) ∧ St W w' I F := by
  have h1 := hst.alloc_ (.cells (part 8 hTab) 129)
  rw [begin_cells] at h1
  have H1 := Lib.hid h1; clear h1
  have e1 : ((w.alloc (.cells (part 8 hTab) 129)).heap[w.heap.size]?) = some (.cells (part 8 hTab) 129 (0, 0)) := heap_alloc_new w _
  rw [begin_cells] at e1
  have E1 := Lib.hid e1; clear e1
  go_enter Tryd.func88, Tryd.ntmps88
  go_wp2_with fail
  refine bodyPost_ret (results_cell_row rfl _ _ w.heap.size 129 _ (0, 0) _ rfl E1.out Tryd.underlying129 (by kernel_rfl) (by kernel_rfl)) rfl ?_
  rw [begin_cells]
  exact ⟨rfl, H1.out⟩
end
end Go.Proofs.YtfbffmckmchbbaaDoor
