/- flash: Blank; the document's Sectors: walks. image: the document's Sectors: walk. -/
import Derived.Test.YtkpgliaahibjgaaDoorImgCE
namespace Go.Proofs.YtkpgliaahibjgaaDoor
section
set_option linter.unusedVariables false
set_option linter.unusedSimpArgs false
open Go.RowKit Go.Lib

/-- The first i places are 255, the others still nought. -/
def blankAt (i : Nat) : List UInt8 := List.replicate i 255 ++ List.replicate (64 - i) 0
theorem blankAt_len (i : Nat) (h : i ≤ 64) : (blankAt i).length = 64 := by simp [blankAt]; omega
theorem blankAt_set (i : Nat) (h : i < 64) : (bcells (blankAt i)).setIfInBounds i (.int .u8 255) = bcells (blankAt (i + 1)) := by
  unfold bcells blankAt
  apply Array.toList_inj.1
  rw [Array.toList_setIfInBounds]
  simp only
  apply List.ext_getElem?
  intro j
  rw [List.getElem?_set]
  simp only [List.length_map, List.length_append, List.length_replicate, List.getElem?_map, List.getElem?_append, List.getElem?_replicate]
  by_cases hj : i = j
  · subst hj
    have h1 : i < i + (64 - i) := by omega
    have h2 : i < i + 1 := by omega
    simp [h1, h2, bval]
  · rw [if_neg hj]
    by_cases h3 : j < i
    · have h4 : j < i + 1 := by omega
      simp [h3, h4]
    · have h4 : ¬ j < i + 1 := by omega
      have h5 : (j - i < 64 - i) = (j - (i + 1) < 64 - (i + 1)) := by apply propext; omega
      simp [h3, h4, h5]
def blank : List UInt8 := List.replicate 64 255
theorem blankAt_64 : blankAt 64 = blank := rfl

section
variable {W w : World} {I : Nat → Option Obj} {F : List (Nat × Obj)}
set_option maxRecDepth 100000 in
set_option maxHeartbeats 2000000 in
theorem blank_any (h : St W w I F) : Calls Tryd.prog 28 #[] w fun e w' => e = .returned (.agg (bcells blank)) ∧ St W w' I F := by
  obtain ⟨b0, hb0⟩ : ∃ b, b = w.heap.size := ⟨_, rfl⟩
  have hz : bcells (blankAt 0) = (Value.int .u8 0 :: .int .u8 0 :: .int .u8 0 :: .int .u8 0 :: .int .u8 0 :: .int .u8 0 :: .int .u8 0 :: .int .u8 0 :: .int .u8 0 :: .int .u8 0 :: .int .u8 0 :: .int .u8 0 :: .int .u8 0 :: .int .u8 0 :: .int .u8 0 :: .int .u8 0 :: .int .u8 0 :: .int .u8 0 :: .int .u8 0 :: .int .u8 0 :: .int .u8 0 :: .int .u8 0 :: .int .u8 0 :: .int .u8 0 :: .int .u8 0 :: .int .u8 0 :: .int .u8 0 :: .int .u8 0 :: .int .u8 0 :: .int .u8 0 :: .int .u8 0 :: .int .u8 0 :: .int .u8 0 :: .int .u8 0 :: .int .u8 0 :: .int .u8 0 :: .int .u8 0 :: .int .u8 0 :: .int .u8 0 :: .int .u8 0 :: .int .u8 0 :: .int .u8 0 :: .int .u8 0 :: .int .u8 0 :: .int .u8 0 :: .int .u8 0 :: .int .u8 0 :: .int .u8 0 :: .int .u8 0 :: .int .u8 0 :: .int .u8 0 :: .int .u8 0 :: .int .u8 0 :: .int .u8 0 :: .int .u8 0 :: .int .u8 0 :: .int .u8 0 :: .int .u8 0 :: .int .u8 0 :: .int .u8 0 :: .int .u8 0 :: .int .u8 0 :: .int .u8 0 :: .int .u8 0 :: []).toArray := rfl
  have h1 := (h.alloc (.cells (bcells (blankAt 0)) 27)).alloc (.cells (bcells (blankAt 0)) 27)
  have h2 : (w.alloc (.cells (bcells (blankAt 0)) 27)).heap.size = b0 + 1 := by rw [World.size_alloc, hb0]
  rw [h2, ← hb0] at h1
  have H1 := Lib.hid h1; have HZ := Lib.hid hz; have H2 := Lib.hid h2
  clear h h1 hz h2
  go_enter Tryd.func28, Tryd.ntmps28
  go_wp2_with fail
  simp only [H2.out, ← hb0]
  clear hb0 HZ H2
  go_loopw [3] (fun i wr => ∃ k : Nat, i = .int .i64 k ∧ k ≤ 64 ∧ St W wr I ((b0 + 1, .cells (bcells (blankAt k)) 27 (0, 0)) :: (b0, .cells (bcells (blankAt 0)) 27 (0, 0)) :: F)) (fun i _ => 64 - (intOf i).toNat)
  case atStart => exact ⟨0, rfl, by omega, H1.out⟩
  case round =>
    obtain ⟨k, rfl, hk, hst⟩ := hrel
    clear H1
    by_cases hkl : k < 64
    · have c0 : wr.cell? ⟨b0 + 1, k, none⟩ = some (.int .u8 (((blankAt k).getD k 0).toNat : Int)) := (hst.cell (g := b0 + 1) (List.mem_cons_self ..) k).trans (bcells_get _ k (by rw [blankAt_len k hk]; exact hkl))
      have f0 : wr.frozen? ⟨b0 + 1, k, none⟩ = false := hst.frozen (g := b0 + 1) (List.mem_cons_self ..) k
      have h5 := St.set (A := []) hst k (.int .u8 255)
      rw [blankAt_set k hkl] at h5
      have H5 := Lib.hid h5
      clear h5 hst
      go_wp2_with fail
      go_roundw
      case rel => exact ⟨k + 1, by go_num, by omega, H5.out⟩
      case measure => simp [intOf]; omega
    · obtain rfl : k = 64 := by omega
      have hbs : (bcells (blankAt 64)).size = 64 := by rw [bcells_size, blankAt_len 64 (by omega)]
      have hz0 : (bcells (blankAt 0)).size = 64 := by rw [bcells_size, blankAt_len 0 (by omega)]
      have hone := bcells_one (blankAt 64)
      have hi : (Tryd.prog.info? 27).map (·.size) = some (bcells (blankAt 64)).size := by rw [hbs]; kernel_rfl
      have hf : 0 + (bcells (blankAt 64)).size ≤ (bcells (blankAt 0)).size := by omega
      generalize hX : bcells (blankAt 64) = X at *
      have HXB := Lib.hid hX
      clear hX
      generalize bcells (blankAt 0) = Z at *
      have HST := Lib.hid hst; have HS2 := Lib.hid (St.swap (A := [_]) (B := [_]) hst); have HI := Lib.hid hi; have HF := Lib.hid hf; have HO := Lib.hid hone; have HXS := Lib.hid hbs; have HZS := Lib.hid hz0
      clear hst hi hf hone hbs hz0
      go_wp2_with (first
        | (with_reducible refine wpList_load_st rfl 27 (.tmp 1) rfl (g := b0 + 1) (off := 0) rfl HST.out (List.mem_cons_self ..) X (fun j hj => by rw [Nat.zero_add]) _ Tryd.underlying27 rfl HI.out ?_)
        | (with_reducible refine wpList_store_st rfl 27 (.tmp 0) (.tmp 9) rfl (g := b0) (off := 0) X rfl rfl HS2.out HF.out HI.out HO.out ?_; intro w5 h6; refine Hid.out ?_))
      refine Lib.hid ?_
      rw [setMany_whole _ _ (by rw [Array.length_toList, HXS.out, HZS.out]), Array.toArray_toList] at h6
      have H6 := Lib.hid h6
      clear h6
      go_wp2_with fail
      refine bodyPost_ret (results_row rfl _ _ b0 27 X (0, 0) _ rfl (H6.out.own (b0, _) (List.mem_cons_self ..)) Tryd.underlying27 rfl HI.out) rfl ?_
      exact ⟨by rw [← HXB.out]; rfl, St.weaken (A := [_, _]) H6.out⟩
end
end

section
set_option linter.unusedVariables false
set_option linter.unusedSimpArgs false
open Go.RowKit Go.Lib

/-- The k-th sector of bytes. -/
def secF (bs : List UInt8) (k : Nat) : List UInt8 := (List.range 64).map fun j => if k * 64 + j < bs.length then bs.getD (k * 64 + j) 0 else 255
theorem secF_len (bs : List UInt8) (k : Nat) : (secF bs k).length = 64 := by simp [secF]
theorem secF_get (bs : List UInt8) (k j : Nat) (h : j < 64) : (secF bs k)[j]? = some (if k * 64 + j < bs.length then bs.getD (k * 64 + j) 0 else 255) := by
  unfold secF
  rw [List.getElem?_map, List.getElem?_range h]
  rfl
/-- Its first i places, the others still nought. -/
def secP (bs : List UInt8) (k i : Nat) : List UInt8 := (secF bs k).take i ++ List.replicate (64 - i) 0
theorem secP_len (bs : List UInt8) (k i : Nat) (h : i ≤ 64) : (secP bs k i).length = 64 := by simp [secP, secF_len]; omega
theorem secP_set (bs : List UInt8) (k i : Nat) (h : i < 64) (v : UInt8) (hv : v = if k * 64 + i < bs.length then bs.getD (k * 64 + i) 0 else 255) : (bcells (secP bs k i)).setIfInBounds i (bval v) = bcells (secP bs k (i + 1)) := by
  unfold bcells secP
  apply Array.toList_inj.1
  rw [Array.toList_setIfInBounds]
  simp only
  apply List.ext_getElem?
  intro j
  rw [List.getElem?_set]
  have hl : ((secF bs k).take i).length = i := by rw [List.length_take, secF_len]; omega
  have hl2 : ((secF bs k).take (i + 1)).length = i + 1 := by rw [List.length_take, secF_len]; omega
  rw [List.getElem?_map, List.getElem?_map, List.length_map, List.length_append, List.length_replicate, hl]
  by_cases hj : i = j
  · subst hj
    rw [if_pos rfl, if_pos (by omega), List.getElem?_append_left (by omega), List.getElem?_take_of_lt (by omega), secF_get bs k i h, ← hv]
    rfl
  · rw [if_neg hj]
    by_cases h3 : j < i
    · rw [List.getElem?_append_left (by omega), List.getElem?_append_left (by omega), List.getElem?_take_of_lt h3, List.getElem?_take_of_lt (by omega)]
    · rw [List.getElem?_append_right (by omega), List.getElem?_append_right (by omega), hl, hl2, List.getElem?_replicate, List.getElem?_replicate]
      by_cases h4 : j < 64
      · rw [if_pos (by omega), if_pos (by omega)]
      · rw [if_neg (by omega), if_neg (by omega)]
theorem secP_0 (bs : List UInt8) (k : Nat) : secP bs k 0 = List.replicate 64 0 := by simp [secP]
theorem secP_64 (bs : List UInt8) (k : Nat) : secP bs k 64 = secF bs k := by
  unfold secP
  rw [List.take_of_length_le (by rw [secF_len]; omega)]
  simp
def sects (bs : List UInt8) (n : Nat) : List (List UInt8) := (List.range n).map (secF bs)
theorem sects_add (bs : List UInt8) (n : Nat) : sects bs (n + 1) = sects bs n ++ [secF bs n] := by simp [sects, List.range_succ]
theorem sects_len (bs : List UInt8) (n : Nat) : (sects bs n).length = n := by simp [sects]
/-- How many sectors. -/
def secN (bs : List UInt8) : Nat := (bs.length + 63) / 64

section
variable {W w : World} {I : Nat → Option Obj} {F : List (Nat × Obj)}
set_option maxRecDepth 100000 in
set_option maxHeartbeats 4000000 in
theorem rsectors (p : Part) (hp : p.In W I) (hl : p.bs.length ≤ 1000000) (h : St W w I F) : Calls Tryd.prog 11 #[.slice p.A p.bs.length p.c] w fun e w' => ∃ A c L0, e = .returned (.slice A (secN p.bs) c) ∧ Row 27 64 (.slice A (secN p.bs) c) (secN p.bs) (hcells (sects p.bs (secN p.bs))) L0 ∧ St W w' I (L0 ++ F) := by
  obtain ⟨A0, cap, bs⟩ := p
  simp only at hl ⊢
  obtain ⟨n, hn⟩ : ∃ n, secN bs = n := ⟨_, rfl⟩
  have hn1 : n * 64 < bs.length + 64 ∧ bs.length ≤ n * 64 := by unfold secN at hn; omega
  rw [hn]
  clear hn
  have h1 := h.alloc (.cells #[] 27)
  have hr0 := Row.empty 27 64 w.heap.size
  obtain ⟨Z, hZ⟩ : ∃ Z, Z = (Value.int .u8 0 :: .int .u8 0 :: .int .u8 0 :: .int .u8 0 :: .int .u8 0 :: .int .u8 0 :: .int .u8 0 :: .int .u8 0 :: .int .u8 0 :: .int .u8 0 :: .int .u8 0 :: .int .u8 0 :: .int .u8 0 :: .int .u8 0 :: .int .u8 0 :: .int .u8 0 :: .int .u8 0 :: .int .u8 0 :: .int .u8 0 :: .int .u8 0 :: .int .u8 0 :: .int .u8 0 :: .int .u8 0 :: .int .u8 0 :: .int .u8 0 :: .int .u8 0 :: .int .u8 0 :: .int .u8 0 :: .int .u8 0 :: .int .u8 0 :: .int .u8 0 :: .int .u8 0 :: .int .u8 0 :: .int .u8 0 :: .int .u8 0 :: .int .u8 0 :: .int .u8 0 :: .int .u8 0 :: .int .u8 0 :: .int .u8 0 :: .int .u8 0 :: .int .u8 0 :: .int .u8 0 :: .int .u8 0 :: .int .u8 0 :: .int .u8 0 :: .int .u8 0 :: .int .u8 0 :: .int .u8 0 :: .int .u8 0 :: .int .u8 0 :: .int .u8 0 :: .int .u8 0 :: .int .u8 0 :: .int .u8 0 :: .int .u8 0 :: .int .u8 0 :: .int .u8 0 :: .int .u8 0 :: .int .u8 0 :: .int .u8 0 :: .int .u8 0 :: .int .u8 0 :: .int .u8 0 :: []).toArray := ⟨_, rfl⟩
  have hZs : Z.size = 64 := by rw [hZ]; rfl
  have hZb : ∀ k, Z = bcells (secP bs k 0) := fun k => by rw [secP_0, hZ]; rfl
  have H1 := Lib.hid h1; have HR0 := Lib.hid hr0; have HZ := Lib.hid hZ; have HZS := Lib.hid hZs; have HZB := Lib.hid hZb; have HP := Lib.hid hp
  clear h h1 hr0 hZ hZs hZb hp
  go_enter Tryd.func11, Tryd.ntmps11
  go_wp2_with fail
  go_loopw [3, 4] (fun o i wr => ∃ (k : Nat) (A : Option Addr) (c : Nat) (L0 : List (Nat × Obj)), o = .slice A k c ∧ i = .int .i64 ((k * 64 : Nat) : Int) ∧ k ≤ n ∧ Row 27 64 (.slice A k c) k (hcells (sects bs k)) L0 ∧ St W wr I (L0 ++ F)) (fun _ i _ => n * 64 - (intOf i).toNat)
  case atStart => exact ⟨0, _, 0, _, rfl, rfl, by omega, HR0.out, H1.out⟩
  case round =>
    obtain ⟨k, A, c, L0, rfl, rfl, hk, hrow, hst⟩ := hrel
    clear H1 HR0
    by_cases hkl : k < n
    · obtain ⟨P, hP⟩ : ∃ P, k * 64 = P := ⟨_, rfl⟩
      rw [hP]
      have hPl : (P : Int) < (bs.length : Int) := by omega
      have hPh : (P : Int) ≤ 2000000 := by omega
      obtain ⟨g, hg⟩ : ∃ g, g = wr.heap.size := ⟨_, rfl⟩
      have h3 := hst.alloc (.cells Z 27)
      rw [← hg] at h3
      have hzi : (Tryd.prog.info? 27).map (·.size) = some Z.size := by rw [HZS.out]; kernel_rfl
      have hzo : Z.all (·.oneCell') = true := by rw [HZB.out 0]; exact bcells_one _
      have hZ := HZ.out
      have H3 := Lib.hid h3; have HROW := Lib.hid hrow; have HZI := Lib.hid hzi; have HZO := Lib.hid hzo; have HPP := Lib.hid hP
      have hzz : 0 + Z.size ≤ Z.size := by omega
      have HZF := Lib.hid hzz
      clear h3 hrow hzi hzo hP hst hzz
      subst hZ
      go_wp2_with (with_reducible refine wpList_store_st rfl 27 (.tmp 5) (.tmp 14) rfl (g := wr.heap.size) (off := 0) _ rfl rfl (by rw [← hg]; exact H3.out) HZF.out HZI.out HZO.out ?_; intro w4 h4; refine Hid.out ?_)
      refine Lib.hid ?_
      rw [setMany_whole _ _ (by rw [Array.length_toList]), Array.toArray_toList, ← hg] at h4
      have h4 : St W w4 I ((g, .cells (bcells (secP bs k 0)) 27 (0, 0)) :: (L0 ++ F)) := by
        rw [← HZB.out k]
        exact h4
      have H4 := Lib.hid h4
      clear h4 H3 HZI HZO HZF
      rw [← hg]
      clear hg
      go_wp2_with fail
      go_loopw [15] (fun i wr => ∃ j : Nat, i = .int .i64 j ∧ j ≤ 64 ∧ St W wr I ((g, .cells (bcells (secP bs k j)) 27 (0, 0)) :: (L0 ++ F))) (fun i _ => 64 - (intOf i).toNat)
      case atStart => exact ⟨0, rfl, by omega, H4.out⟩
      case round =>
        obtain ⟨j, rfl, hj, hst⟩ := hrel
        clear H4
        by_cases hjl : j < 64
        · have c0 : wr.cell? ⟨g, j, none⟩ = some (.int .u8 (((secP bs k j).getD j 0).toNat : Int)) := (hst.cell (g := g) (List.mem_cons_self ..) j).trans (bcells_get _ j (by rw [secP_len bs k j hj]; exact hjl))
          have f0 : wr.frozen? ⟨g, j, none⟩ = false := hst.frozen (g := g) (List.mem_cons_self ..) j
          obtain ⟨E, hE⟩ : ∃ E : Nat, (P : Int) + (j : Int) = (E : Int) := ⟨P + j, by omega⟩
          by_cases hlt : E < bs.length
          · have h5 := St.set (A := []) hst j (.int .u8 255)
            obtain ⟨ad, hA, hc⟩ := (HP.out _ _ h5).2 E (bval (bs[E]'hlt)) (by rw [List.getElem?_map, List.getElem?_eq_getElem hlt]; rfl)
            have h6 := St.set (A := []) h5 j (bval (bs[E]'hlt))
            have hss : ((bcells (secP bs k j)).setIfInBounds j (.int .u8 255)).setIfInBounds j (bval (bs[E]'hlt)) = bcells (secP bs k (j + 1)) := by
              rw [Array.setIfInBounds_setIfInBounds]
              refine secP_set bs k j hjl _ ?_
              have hEP : k * 64 + j = E := by have := HPP.out; omega
              rw [hEP, if_pos hlt, List.getD_eq_getElem?_getD, List.getElem?_eq_getElem hlt]
              rfl
            rw [hss] at h6
            have c1 : (wr.setCell ⟨g, j, none⟩ (.int .u8 255)).cell? ⟨g, j, none⟩ = some (.int .u8 255) := (h5.cell (g := g) (List.mem_cons_self ..) j).trans (by rw [Array.getElem?_setIfInBounds_self_of_lt (by rw [bcells_size, secP_len bs k j hj]; exact hjl)])
            have f1 : (wr.setCell ⟨g, j, none⟩ (.int .u8 255)).frozen? ⟨g, j, none⟩ = false := h5.frozen (g := g) (List.mem_cons_self ..) j
            have hEi : (E : Int) < (bs.length : Int) := by omega
            unfold bval at hc
            simp only at hA
            have H6 := Lib.hid h6
            clear h5 h6 hss hst
            subst hA
            unfold bval at H6
            generalize (bs[E]'hlt).toNat = bv at *
            go_wp2_with fail
            go_roundw
            case rel => exact ⟨j + 1, by go_num, by omega, H6.out⟩
            case measure => simp [intOf]; omega
          · have h5 := St.set (A := []) hst j (.int .u8 255)
            have hss : (bcells (secP bs k j)).setIfInBounds j (.int .u8 255) = bcells (secP bs k (j + 1)) := by
              refine secP_set bs k j hjl 255 ?_
              have hEP : k * 64 + j = E := by have := HPP.out; omega
              rw [hEP, if_neg hlt]
            rw [hss] at h5
            have hEi : ¬ (E : Int) < (bs.length : Int) := by omega
            have H5 := Lib.hid h5
            clear h5 hss hst
            go_wp2_with fail
            go_roundw
            case rel => exact ⟨j + 1, by go_num, by omega, H5.out⟩
            case measure => simp [intOf]; omega
        · obtain rfl : j = 64 := by omega
          rw [secP_64] at hst
          have hXs : (bcells (secF bs k)).size = 64 := by rw [bcells_size, secF_len]
          have hone : ∀ u ∈ (bcells (secF bs k)).toList, u.oneCell' = true := fun u hu => Array.all_eq_true_iff_forall_mem.1 (bcells_one (secF bs k)) u (Array.mem_toList_iff.1 hu)
          have hi : (Tryd.prog.info? 27).map (·.size) = some (bcells (secF bs k)).size := by rw [hXs]; kernel_rfl
          have hadd : hcells (sects bs k) ++ (bcells (secF bs k)).toList = hcells (sects bs (k + 1)) := by
            rw [sects_add, hcells_add]
            simp [bcells]
          generalize bcells (secF bs k) = X at *
          have hfold : Array.foldl (fun cs (x : Value × Nat) => cs.setIfInBounds x.snd x.fst) (Value.int .u8 0 :: .int .u8 0 :: .int .u8 0 :: .int .u8 0 :: .int .u8 0 :: .int .u8 0 :: .int .u8 0 :: .int .u8 0 :: .int .u8 0 :: .int .u8 0 :: .int .u8 0 :: .int .u8 0 :: .int .u8 0 :: .int .u8 0 :: .int .u8 0 :: .int .u8 0 :: .int .u8 0 :: .int .u8 0 :: .int .u8 0 :: .int .u8 0 :: .int .u8 0 :: .int .u8 0 :: .int .u8 0 :: .int .u8 0 :: .int .u8 0 :: .int .u8 0 :: .int .u8 0 :: .int .u8 0 :: .int .u8 0 :: .int .u8 0 :: .int .u8 0 :: .int .u8 0 :: .int .u8 0 :: .int .u8 0 :: .int .u8 0 :: .int .u8 0 :: .int .u8 0 :: .int .u8 0 :: .int .u8 0 :: .int .u8 0 :: .int .u8 0 :: .int .u8 0 :: .int .u8 0 :: .int .u8 0 :: .int .u8 0 :: .int .u8 0 :: .int .u8 0 :: .int .u8 0 :: .int .u8 0 :: .int .u8 0 :: .int .u8 0 :: .int .u8 0 :: .int .u8 0 :: .int .u8 0 :: .int .u8 0 :: .int .u8 0 :: .int .u8 0 :: .int .u8 0 :: .int .u8 0 :: .int .u8 0 :: .int .u8 0 :: .int .u8 0 :: .int .u8 0 :: .int .u8 0 :: []).toArray X.zipIdx 0 64 = X := by
            rw [fold_fill X _ 64 hXs (by decide)]
            rw [show ((Value.int .u8 0 :: .int .u8 0 :: .int .u8 0 :: .int .u8 0 :: .int .u8 0 :: .int .u8 0 :: .int .u8 0 :: .int .u8 0 :: .int .u8 0 :: .int .u8 0 :: .int .u8 0 :: .int .u8 0 :: .int .u8 0 :: .int .u8 0 :: .int .u8 0 :: .int .u8 0 :: .int .u8 0 :: .int .u8 0 :: .int .u8 0 :: .int .u8 0 :: .int .u8 0 :: .int .u8 0 :: .int .u8 0 :: .int .u8 0 :: .int .u8 0 :: .int .u8 0 :: .int .u8 0 :: .int .u8 0 :: .int .u8 0 :: .int .u8 0 :: .int .u8 0 :: .int .u8 0 :: .int .u8 0 :: .int .u8 0 :: .int .u8 0 :: .int .u8 0 :: .int .u8 0 :: .int .u8 0 :: .int .u8 0 :: .int .u8 0 :: .int .u8 0 :: .int .u8 0 :: .int .u8 0 :: .int .u8 0 :: .int .u8 0 :: .int .u8 0 :: .int .u8 0 :: .int .u8 0 :: .int .u8 0 :: .int .u8 0 :: .int .u8 0 :: .int .u8 0 :: .int .u8 0 :: .int .u8 0 :: .int .u8 0 :: .int .u8 0 :: .int .u8 0 :: .int .u8 0 :: .int .u8 0 :: .int .u8 0 :: .int .u8 0 :: .int .u8 0 :: .int .u8 0 :: .int .u8 0 :: []).toArray : Array Value).toList.drop 64 = [] from rfl, List.append_nil, Array.toArray_toList]
          have HST := Lib.hid hst; have HI := Lib.hid hi; have HO := Lib.hid hone; have HADD := Lib.hid hadd
          clear hst hi hone hadd HZ HZS HZB
          go_wp2_with (first
            | (with_reducible refine wpList_load_st rfl 27 (.tmp 5) rfl (g := g) (off := 0) rfl HST.out (List.mem_cons_self ..) X (fun j hj => by rw [Nat.zero_add]) _ Tryd.underlying27 rfl HI.out ?_)
            | (at_builtin; refine Hid.out ?_))
          refine Lib.hid ?_
          refine wpList_append_row (F := (g, .cells X 27 (0, 0)) :: F) (L := L0) rfl (.tmp 35) (.tmp 37) 24 rfl 27 (.agg (Value.int .u8 0 :: .int .u8 0 :: .int .u8 0 :: .int .u8 0 :: .int .u8 0 :: .int .u8 0 :: .int .u8 0 :: .int .u8 0 :: .int .u8 0 :: .int .u8 0 :: .int .u8 0 :: .int .u8 0 :: .int .u8 0 :: .int .u8 0 :: .int .u8 0 :: .int .u8 0 :: .int .u8 0 :: .int .u8 0 :: .int .u8 0 :: .int .u8 0 :: .int .u8 0 :: .int .u8 0 :: .int .u8 0 :: .int .u8 0 :: .int .u8 0 :: .int .u8 0 :: .int .u8 0 :: .int .u8 0 :: .int .u8 0 :: .int .u8 0 :: .int .u8 0 :: .int .u8 0 :: .int .u8 0 :: .int .u8 0 :: .int .u8 0 :: .int .u8 0 :: .int .u8 0 :: .int .u8 0 :: .int .u8 0 :: .int .u8 0 :: .int .u8 0 :: .int .u8 0 :: .int .u8 0 :: .int .u8 0 :: .int .u8 0 :: .int .u8 0 :: .int .u8 0 :: .int .u8 0 :: .int .u8 0 :: .int .u8 0 :: .int .u8 0 :: .int .u8 0 :: .int .u8 0 :: .int .u8 0 :: .int .u8 0 :: .int .u8 0 :: .int .u8 0 :: .int .u8 0 :: .int .u8 0 :: .int .u8 0 :: .int .u8 0 :: .int .u8 0 :: .int .u8 0 :: .int .u8 0 :: []).toArray) 64 64 Tryd.underlying24 (by kernel_rfl) rfl (by omega) rfl HROW.out (St.swap (A := [_]) (St.alloc_ HST.out _)) rfl (Src.newS _ 64 X 27 rfl 1 hXs) HO.out (k + 1) rfl (hcells (sects bs (k + 1))) HADD.out (by unfold maxLen; omega) (by omega) ?_
          intro A6 c6 w6 L6 hr6 h6
          have h7 := St.mid (A := L6) (B := [_]) h6
          have H7 := Lib.hid h7; have HR6 := Lib.hid hr6
          have hE2 : (((k + 1) * 64 : Nat) : Int) = (P : Int) + 64 := by have := HPP.out; omega
          have HE2 := Lib.hid hE2
          clear h6 h7 hr6 HST hE2
          go_wp2_with fail
          refine ⟨⟨k + 1, A6, c6, L6, rfl, by rw [HE2.out], by omega, HR6.out, H7.out⟩, ?_⟩
          have := HPP.out
          simp [intOf]; omega
    · obtain rfl : k = n := by omega
      have hPl : ¬ (((k * 64 : Nat) : Int) < (bs.length : Int)) := by omega
      have HST := Lib.hid hst; have HROW := Lib.hid hrow
      generalize k * 64 = P at *
      clear hst hrow HZ HZS HZB
      go_wp2_with fail
      go_ret
      exact ⟨A, c, rfl, L0, HROW.out, HST.out⟩
end
end
end Go.Proofs.YtkpgliaahibjgaaDoor
