/- flash: Blank; the document's Sectors: walks. -/
import Derived.Test.YtkpgliaahibjgaaDoorImgE
namespace Go.Proofs.YtkpgliaahibjgaaDoor
set_option linter.unusedVariables false
set_option linter.unusedSimpArgs false
open Go.RowKit Go.Lib

/-- The first i places are 255, the others still nought. -/
def blankAt (i : Nat) : List UInt8 := List.replicate i 255 ++ List.replicate (64 - i) 0
theorem blankAt_len (i : Nat) (h : i ≤ 64) : (blankAt i).length = 64 := by simp [blankAt]; omega
theorem blankAt_set (i : Nat) (h : i < 64) : (bcells (blankAt i)).setIfInBounds i (.int .u8 255) = bcells (blankAt (i + 1)) := by
  unfold bcells blankAt
  apply Array.toList_inj.1
  rw [Array.toList_setIfInBounds]
  simp only
  apply List.ext_getElem?
  intro j
  rw [List.getElem?_set]
  simp only [List.length_map, List.length_append, List.length_replicate, List.getElem?_map, List.getElem?_append, List.getElem?_replicate]
  by_cases hj : i = j
  · subst hj
    have h1 : i < i + (64 - i) := by omega
    have h2 : i < i + 1 := by omega
    simp [h1, h2, bval]
  · rw [if_neg hj]
    by_cases h3 : j < i
    · have h4 : j < i + 1 := by omega
      simp [h3, h4]
    · have h4 : ¬ j < i + 1 := by omega
      have h5 : (j - i < 64 - i) = (j - (i + 1) < 64 - (i + 1)) := by apply propext; omega
      simp [h3, h4, h5]
def blank : List UInt8 := List.replicate 64 255
theorem blankAt_64 : blankAt 64 = blank := rfl

section
variable {W w : World} {I : Nat → Option Obj} {F : List (Nat × Obj)}
set_option maxRecDepth 100000 in
set_option maxHeartbeats 2000000 in
theorem blank_any (h : St W w I F) : Calls Tryd.prog 28 #[] w fun e w' => e = .returned (.agg (bcells blank)) ∧ St W w' I F := by
  obtain ⟨b0, hb0⟩ : ∃ b, b = w.heap.size := ⟨_, rfl⟩
  have hz : bcells (blankAt 0) = (Value.int .u8 0 :: .int .u8 0 :: .int .u8 0 :: .int .u8 0 :: .int .u8 0 :: .int .u8 0 :: .int .u8 0 :: .int .u8 0 :: .int .u8 0 :: .int .u8 0 :: .int .u8 0 :: .int .u8 0 :: .int .u8 0 :: .int .u8 0 :: .int .u8 0 :: .int .u8 0 :: .int .u8 0 :: .int .u8 0 :: .int .u8 0 :: .int .u8 0 :: .int .u8 0 :: .int .u8 0 :: .int .u8 0 :: .int .u8 0 :: .int .u8 0 :: .int .u8 0 :: .int .u8 0 :: .int .u8 0 :: .int .u8 0 :: .int .u8 0 :: .int .u8 0 :: .int .u8 0 :: .int .u8 0 :: .int .u8 0 :: .int .u8 0 :: .int .u8 0 :: .int .u8 0 :: .int .u8 0 :: .int .u8 0 :: .int .u8 0 :: .int .u8 0 :: .int .u8 0 :: .int .u8 0 :: .int .u8 0 :: .int .u8 0 :: .int .u8 0 :: .int .u8 0 :: .int .u8 0 :: .int .u8 0 :: .int .u8 0 :: .int .u8 0 :: .int .u8 0 :: .int .u8 0 :: .int .u8 0 :: .int .u8 0 :: .int .u8 0 :: .int .u8 0 :: .int .u8 0 :: .int .u8 0 :: .int .u8 0 :: .int .u8 0 :: .int .u8 0 :: .int .u8 0 :: .int .u8 0 :: []).toArray := rfl
  have h1 := (h.alloc (.cells (bcells (blankAt 0)) 27)).alloc (.cells (bcells (blankAt 0)) 27)
  have h2 : (w.alloc (.cells (bcells (blankAt 0)) 27)).heap.size = b0 + 1 := by rw [World.size_alloc, hb0]
  rw [h2, ← hb0] at h1
  have H1 := Lib.hid h1; have HZ := Lib.hid hz; have H2 := Lib.hid h2
  clear h h1 hz h2
  go_enter Tryd.func28, Tryd.ntmps28
  go_wp2_with fail
  simp only [H2.out, ← hb0]
  clear hb0 HZ H2
  go_loopw [3] (fun i wr => ∃ k : Nat, i = .int .i64 k ∧ k ≤ 64 ∧ St W wr I ((b0 + 1, .cells (bcells (blankAt k)) 27 (0, 0)) :: (b0, .cells (bcells (blankAt 0)) 27 (0, 0)) :: F)) (fun i _ => 64 - (intOf i).toNat)
  case atStart => exact ⟨0, rfl, by omega, H1.out⟩
  case round =>
    obtain ⟨k, rfl, hk, hst⟩ := hrel
    clear H1
    by_cases hkl : k < 64
    · have c0 : wr.cell? ⟨b0 + 1, k, none⟩ = some (.int .u8 (((blankAt k).getD k 0).toNat : Int)) := (hst.cell (g := b0 + 1) (List.mem_cons_self ..) k).trans (bcells_get _ k (by rw [blankAt_len k hk]; exact hkl))
      have f0 : wr.frozen? ⟨b0 + 1, k, none⟩ = false := hst.frozen (g := b0 + 1) (List.mem_cons_self ..) k
      have h5 := St.set (A := []) hst k (.int .u8 255)
      rw [blankAt_set k hkl] at h5
      have H5 := Lib.hid h5
      clear h5 hst
      go_wp2_with fail
      go_roundw
      case rel => exact ⟨k + 1, by go_num, by omega, H5.out⟩
      case measure => simp [intOf]; omega
    · obtain rfl : k = 64 := by omega
      have hbs : (bcells (blankAt 64)).size = 64 := by rw [bcells_size, blankAt_len 64 (by omega)]
      have hz0 : (bcells (blankAt 0)).size = 64 := by rw [bcells_size, blankAt_len 0 (by omega)]
      have hone := bcells_one (blankAt 64)
      have hi : (Tryd.prog.info? 27).map (·.size) = some (bcells (blankAt 64)).size := by rw [hbs]; kernel_rfl
      have hf : 0 + (bcells (blankAt 64)).size ≤ (bcells (blankAt 0)).size := by omega
      generalize hX : bcells (blankAt 64) = X at *
      have HXB := Lib.hid hX
      clear hX
      generalize bcells (blankAt 0) = Z at *
      have HST := Lib.hid hst; have HS2 := Lib.hid (St.swap (A := [_]) (B := [_]) hst); have HI := Lib.hid hi; have HF := Lib.hid hf; have HO := Lib.hid hone; have HXS := Lib.hid hbs; have HZS := Lib.hid hz0
      clear hst hi hf hone hbs hz0
      go_wp2_with (first
        | (with_reducible refine wpList_load_st rfl 27 (.tmp 1) rfl (g := b0 + 1) (off := 0) rfl HST.out (List.mem_cons_self ..) X (fun j hj => by rw [Nat.zero_add]) _ Tryd.underlying27 rfl HI.out ?_)
        | (with_reducible refine wpList_store_st rfl 27 (.tmp 0) (.tmp 9) rfl (g := b0) (off := 0) X rfl rfl HS2.out HF.out HI.out HO.out ?_; intro w5 h6; refine Hid.out ?_))
      refine Lib.hid ?_
      rw [setMany_whole _ _ (by rw [Array.length_toList, HXS.out, HZS.out]), Array.toArray_toList] at h6
      have H6 := Lib.hid h6
      clear h6
      go_wp2_with fail
      refine bodyPost_ret (results_row rfl _ _ b0 27 X (0, 0) _ rfl (H6.out.own (b0, _) (List.mem_cons_self ..)) Tryd.underlying27 rfl HI.out) rfl ?_
      exact ⟨by rw [← HXB.out]; rfl, St.weaken (A := [_, _]) H6.out⟩
end
end Go.Proofs.YtkpgliaahibjgaaDoor
