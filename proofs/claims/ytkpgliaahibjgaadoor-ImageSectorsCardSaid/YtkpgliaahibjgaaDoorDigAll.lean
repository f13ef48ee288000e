/- digest: the function Sum, of parts. -/
import Derived.Test.YtkpgliaahibjgaaDoorDigSum
import Derived.Test.YtkpgliaahibjgaaDoorParts
namespace Go.Proofs.YtkpgliaahibjgaaDoor
set_option linter.unusedVariables false
set_option linter.unusedSimpArgs false
open Go.RowKit

theorem bpart_one (l : List UInt8) : (bpart l).all (·.oneCell') = true := by
  unfold bpart
  apply all_oneCell_toArray
  intro v hv
  rcases List.mem_append.1 hv with h | h
  · obtain ⟨b, _, rfl⟩ := List.mem_map.1 h; rfl
  · rw [List.eq_of_mem_replicate h]; rfl

set_option maxRecDepth 10000 in
set_option maxHeartbeats 1000000 in
theorem all_any {W w : World} {I : Nat → Option Obj} {F : List (Nat × Obj)} (ps : List Part) {gp op cp n : Nat} (hst : St W w I F) (hn : n = ps.length)
    (hcell : ∀ w' L', St W w' I (L' ++ F) → ∀ i p, ps[i]? = some p → w'.cell? ⟨gp, op + i, none⟩ = some p.val)
    (hsrc : ∀ w' L', St W w' I (L' ++ F) → ∀ p ∈ ps, Src w' 1 p.A p.bs.length (p.bs.map bval)) (hlen : (cat ps).length ≤ 549755813888) (hpl : n ≤ 9223372036854775806) :
    Calls Tryd.prog 35 #[.slice (some ⟨gp, op, none⟩) n cp] w fun e w' => e = .returned (.agg (bpart (hashOf (cat ps)))) ∧ St W w' I F := by
  subst hn
  have h0 : St W (w.alloc (.cells (bpart []) 31)) I ((w.heap.size, .cells (bpart []) 31) :: F) := hst.alloc _
  rw [zero32_cells] at h0
  generalize hF' : (w.heap.size, Obj.cells #[.int .u8 0, .int .u8 0, .int .u8 0, .int .u8 0, .int .u8 0, .int .u8 0, .int .u8 0, .int .u8 0, .int .u8 0, .int .u8 0, .int .u8 0, .int .u8 0, .int .u8 0, .int .u8 0, .int .u8 0, .int .u8 0, .int .u8 0, .int .u8 0, .int .u8 0, .int .u8 0, .int .u8 0, .int .u8 0, .int .u8 0, .int .u8 0, .int .u8 0, .int .u8 0, .int .u8 0, .int .u8 0, .int .u8 0, .int .u8 0, .int .u8 0, .int .u8 0] 31) :: F = F' at h0
  have hcell' : ∀ w' L', St W w' I (L' ++ F') → ∀ i p, ps[i]? = some p → w'.cell? ⟨gp, op + i, none⟩ = some p.val := by
    intro w' L' h'
    rw [← hF'] at h'
    exact hcell w' (L' ++ [_]) (by rw [List.append_assoc]; exact h')
  have hsrc' : ∀ w' L', St W w' I (L' ++ F') → ∀ p ∈ ps, Src w' 1 p.A p.bs.length (p.bs.map bval) := by
    intro w' L' h'
    rw [← hF'] at h'
    exact hsrc w' (L' ++ [_]) (by rw [List.append_assoc]; exact h')
  have HF' := Lib.hid hF'; clear hF' hcell hsrc hst
  have HC := Lib.hid hcell'; have HS := Lib.hid hsrc'; clear hcell' hsrc'
  go_enter Tryd.func35, Tryd.ntmps35
  go_wp2_with fail
  refine (new_any h0).mono ?_
  rintro e w1 ⟨g1, L1, rfl, hd1, h1⟩
  have hd : DigSt W w1 I g1 [] F' := ⟨L1, hd1, h1⟩
  clear h0 hd1 h1
  go_wp2_with fail
  go_loopw [9] (fun i wr => ∃ k : Nat, k ≤ ps.length ∧ i = .int .i64 k ∧ DigSt W wr I g1 (cat (ps.take k)) F') (fun i _ => ps.length - (intOf i).toNat)
  case atStart => exact ⟨0, by omega, rfl, hd⟩
  case round =>
    obtain ⟨k, hk, rfl, hd2⟩ := hrel
    clear hd
    by_cases hlt : k < ps.length
    · obtain ⟨p, hp⟩ : ∃ p, ps[k]? = some p := ⟨_, List.getElem?_eq_getElem hlt⟩
      have q : wr.cell? ⟨gp, op + k, none⟩ = some (.slice p.A p.bs.length p.c) := by
        obtain ⟨L, _, hs⟩ := hd2
        exact HC.out _ L hs k p hp
      have hle := cat_take_le ps (k + 1)
      rw [cat_take ps k p hp, List.length_append] at hle
      have hmem : p ∈ ps := List.mem_of_getElem? hp
      have hw := write_any (W := W) (w := wr) (I := I) (F := F') (g := g1) (bs := cat (ps.take k)) p.bs p.A p.c hd2 (fun w' L' h' => HS.out w' L' h' p hmem) (by omega)
      rw [← cat_take ps k p hp] at hw
      clear hle hd2 hp hmem
      generalize p.bs.length = np at *
      generalize p.A = Ap at *
      generalize p.c = cpp at *
      go_wp2_with fail
      refine hw.mono ?_
      clear hw
      rintro e w4 ⟨rfl, hd4⟩
      go_wp2_with fail
      go_roundw
      case rel => exact ⟨k + 1, by omega, by go_num, hd4⟩
      case measure => simp [intOf]; omega
    · obtain rfl : k = ps.length := by omega
      rw [List.take_length] at hd2
      obtain ⟨L, hdg, hs⟩ := hd2
      go_wp2_with fail
      refine (sum_any hdg hs hlen).mono ?_
      rintro e w5 ⟨rfl, h5⟩
      have h6 := h5.weaken
      have eF := HF'.out
      rw [← eF, ← zero32_cells] at h6
      have z1 : (bpart (hashOf (cat ps))).size = 32 := bpart_size _ (by simp [hashOf])
      have z0 : (bpart []).size = 32 := bpart_size _ (by simp)
      have o1 : (bpart (hashOf (cat ps))).all (·.oneCell') = true := bpart_one _
      obtain ⟨CS, hCS⟩ : ∃ CS, CS = bpart (hashOf (cat ps)) := ⟨_, rfl⟩
      rw [← hCS] at z1 o1 ⊢
      have HCS := Lib.hid hCS; clear hCS
      have i1 : (Tryd.prog.info? 31).map (·.size) = some CS.size := by rw [z1]; kernel_rfl
      have ew : setMany (bpart []) 0 CS.toList = CS := by rw [setMany_whole _ _ (by simp [z0, z1])]
      have f1 : 0 + CS.size ≤ (bpart []).size := by omega
      have EW := Lib.hid ew
      clear z1 z0 ew eF HF' hs h5 hdg
      generalize bpart [] = C0 at *
      go_wp2_with (with_reducible refine wpList_store_st rfl 31 (.tmp 2) (.tmp 18) rfl (g := w.heap.size) (off := 0) CS rfl rfl h6 f1 i1 o1 ?_; intro w9 h9)
      rw [EW.out] at h9
      clear h6
      go_wp2_with fail
      refine bodyPost_ret (results_cell_row rfl _ w9 w.heap.size 31 CS (0, 0) _ rfl (h9.own (w.heap.size, .cells CS 31 (0, 0)) (by simp)) Tryd.underlying31 (by kernel_rfl) i1) rfl ?_
      exact ⟨by rw [HCS.out], h9.weaken (A := [_])⟩
end Go.Proofs.YtkpgliaahibjgaaDoor
