/- ManifestSame: the walk of the law. -/
import Derived.Test.YtfbffmckmchbbaaDoorMlX
import Derived.Deep.RegionHeld3
namespace Go.Proofs.YtfbffmckmchbbaaDoor
set_option linter.unusedVariables false
set_option linter.unusedSimpArgs false
open Go.RowKit Go.Lib

set_option maxRecDepth 100000 in
set_option maxHeartbeats 4000000 in
theorem walk_manifestSame (W : World) (tabs : Tabs W) {H : Type} {enc : TypeId × Value → H} {v0 v1 : Value} (a0 : Arg enc Tryd.prog W 29 v0) (a1 : Arg enc Tryd.prog W 29 v1) :
    Calls Tryd.prog 4 #[v0, v1] W fun e w' => e = .returned (.bool true) ∧ Below W.heap.size W w' := by
  obtain ⟨m, hs, rfl, hm⟩ := a0.manifest
  obtain ⟨m2, hs2, rfl, hm2⟩ := a1.manifest
  have t := TB.start tabs
  have h0 := ((St.start W).alloc (.cells m.cells 29)).alloc (.cells m2.cells 29)
  rw [World.size_alloc] at h0
  have kA := man_alive t h0
  obtain ⟨ba, hba⟩ : ∃ b, W.heap.size = b := ⟨_, rfl⟩
  rw [hba] at h0 kA
  have kG1 := fun (v : World) (hv : St W v (fun b => W.heap[b]?) [(ba + 1, .cells m2.cells 29 (0, 0)), (ba, .cells m.cells 29 (0, 0))]) => great_any m hm.ok hv
  have kG2 := fun (v : World) (hv : St W v (fun b => W.heap[b]?) [(ba + 1, .cells m2.cells 29 (0, 0)), (ba, .cells m.cells 29 (0, 0))]) => great_any m2 hm2.ok hv
  have hmi : (Tryd.prog.info? 29).map (·.size) = some m.cells.size := by rw [Man.cells_size hm.ok]; kernel_rfl
  have hmi2 : (Tryd.prog.info? 29).map (·.size) = some m2.cells.size := by rw [Man.cells_size hm2.ok]; kernel_rfl
  have hval : m.val = .agg m.cells := rfl
  have hval2 : m2.val = .agg m2.cells := rfl
  rw [hval] at kG1 ⊢
  rw [hval2] at kG2 ⊢
  have KA := Lib.hid kA; have TT := Lib.hid t; have HBA := Lib.hid hba; have HM := Lib.hid hm; have HM2 := Lib.hid hm2; have KG1 := Lib.hid kG1; have KG2 := Lib.hid kG2; have HMI := Lib.hid hmi; have HMI2 := Lib.hid hmi2
  clear kA h0 t a0 a1 tabs kG1 kG2 hmi hmi2 hval hval2 hm hm2
  go_enter Tryd.func4, Tryd.ntmps4
  go_wp2_with fail
  refine KA.out.mono ?_
  rintro e w1 ⟨rfl, h1⟩
  have H1 := Lib.hid h1
  have HF : Hid (Below W.heap.size W w1) := Lib.hid (h1.below (Le.refl _))
  clear hba KA h1
  go_wp2_with (refine wpList_load_g (by rfl) 29 (.tmp 2) rfl (g := ba) (off := 0) rfl H1.out (cs := m.cells) (t := 29) (fr := (0, 0)) (by simp) m.cells (fun j hj => by rw [Nat.zero_add]) _ Tryd.underlying29 rfl HMI.out ?_)
  refine (KG1.out _ H1.out).mono ?_
  rintro e w2 ⟨rfl, h2⟩
  have H2 := Lib.hid h2
  have HF : Hid (Below W.heap.size W w2) := Lib.hid (h2.below (Le.refl _))
  clear h2 H1
  obtain ⟨G, hG⟩ : ∃ G, (decide (300 < m.prod.size) || decide (100 < m.n)) = G := ⟨_, rfl⟩
  rw [hG]
  cases G with
  | true =>
    clear hG
    go_wp2_with fail
    go_ret
    exact ⟨rfl, HF.out⟩
  | false =>
  have hsz : m.prod.size ≤ 300 ∧ m.n ≤ 100 := by
    simp only [Bool.or_eq_false_iff, decide_eq_false_iff_not] at hG
    omega
  have MI1 : Hid (MI m hs W (fun b => W.heap[b]?)) := Lib.hid (HM.out.mi hsz.1 hsz.2)
  clear hG hsz
  go_wp2_with (refine wpList_load_g (by rfl) 29 (.tmp 3) rfl (g := ba + 1) (off := 0) rfl H2.out (cs := m2.cells) (t := 29) (fr := (0, 0)) (by simp) m2.cells (fun j hj => by rw [Nat.zero_add]) _ Tryd.underlying29 rfl HMI2.out ?_)
  refine (KG2.out _ H2.out).mono ?_
  rintro e w3 ⟨rfl, h3⟩
  have H3 := Lib.hid h3
  have HF : Hid (Below W.heap.size W w3) := Lib.hid (h3.below (Le.refl _))
  clear h3 H2
  obtain ⟨G, hG⟩ : ∃ G, (decide (300 < m2.prod.size) || decide (100 < m2.n)) = G := ⟨_, rfl⟩
  rw [hG]
  cases G with
  | true =>
    clear hG
    go_wp2_with fail
    go_ret
    exact ⟨rfl, HF.out⟩
  | false =>
  have hsz : m2.prod.size ≤ 300 ∧ m2.n ≤ 100 := by
    simp only [Bool.or_eq_false_iff, decide_eq_false_iff_not] at hG
    omega
  have MI2 : Hid (MI m2 hs2 W (fun b => W.heap[b]?)) := Lib.hid (HM2.out.mi hsz.1 hsz.2)
  clear hG hsz
  obtain ⟨S, hS⟩ : ∃ S, decide (mdat m hs = mdat m2 hs2) = S := ⟨_, rfl⟩
  have kR := fun (v : World) (hv : St W v (fun b => W.heap[b]?) [(ba + 1, .cells m2.cells 29 (0, 0)), (ba, .cells m.cells 29 (0, 0))]) => prsame MI1.out MI2.out hv
  have kO := fun (v : World) (hv : St W v (fun b => W.heap[b]?) [(ba + 1, .cells m2.cells 29 (0, 0)), (ba, .cells m.cells 29 (0, 0))]) => psame MI1.out MI2.out hv
  have kO1 := fun (v : World) (hv : St W v (fun b => W.heap[b]?) [(ba + 1, .cells m2.cells 29 (0, 0)), (ba, .cells m.cells 29 (0, 0))]) => psame MI1.out MI1.out hv
  have kO2 := fun (v : World) (hv : St W v (fun b => W.heap[b]?) [(ba + 1, .cells m2.cells 29 (0, 0)), (ba, .cells m.cells 29 (0, 0))]) => psame MI2.out MI1.out hv
  have hsy : decide (mdat m2 hs2 = mdat m hs) = S := by rw [← hS]; exact decide_eq_decide.2 eq_comm
  have hval : m.val = .agg m.cells := rfl
  have hval2 : m2.val = .agg m2.cells := rfl
  rw [hS, hval, hval2] at kR kO
  rw [hsy, hval, hval2] at kO2
  rw [decide_eq_true rfl, hval] at kO1
  have KR := Lib.hid kR; have KO := Lib.hid kO; have KO1 := Lib.hid kO1; have KO2 := Lib.hid kO2; have HS := Lib.hid hS
  clear kR kO kO1 kO2 hsy hval hval2 hS HF KG1 KG2
  go_wp2_with (first
    | (refine wpList_load_g (by rfl) 29 (.tmp 2) rfl (g := ba) (off := 0) rfl H3.out (cs := m.cells) (t := 29) (fr := (0, 0)) (by simp) m.cells (fun j hj => by rw [Nat.zero_add]) _ Tryd.underlying29 rfl HMI.out ?_)
    | (refine wpList_load_g (by rfl) 29 (.tmp 3) rfl (g := ba + 1) (off := 0) rfl H3.out (cs := m2.cells) (t := 29) (fr := (0, 0)) (by simp) m2.cells (fun j hj => by rw [Nat.zero_add]) _ Tryd.underlying29 rfl HMI2.out ?_))
  refine (KR.out _ H3.out).mono ?_
  rintro e w4 ⟨rfl, h4⟩
  have H4 := Lib.hid h4
  clear h4 H3 KR
  go_wp2_with (first
    | (refine wpList_load_g (by rfl) 29 (.tmp 2) rfl (g := ba) (off := 0) rfl H4.out (cs := m.cells) (t := 29) (fr := (0, 0)) (by simp) m.cells (fun j hj => by rw [Nat.zero_add]) _ Tryd.underlying29 rfl HMI.out ?_)
    | (refine wpList_load_g (by rfl) 29 (.tmp 3) rfl (g := ba + 1) (off := 0) rfl H4.out (cs := m2.cells) (t := 29) (fr := (0, 0)) (by simp) m2.cells (fun j hj => by rw [Nat.zero_add]) _ Tryd.underlying29 rfl HMI2.out ?_))
  refine (KO.out _ H4.out).mono ?_
  rintro e w5 ⟨rfl, h5⟩
  have H5 := Lib.hid h5
  clear h5 H4 KO
  go_wp2_with (first
    | (refine wpList_load_g (by rfl) 29 (.tmp 2) rfl (g := ba) (off := 0) rfl H5.out (cs := m.cells) (t := 29) (fr := (0, 0)) (by simp) m.cells (fun j hj => by rw [Nat.zero_add]) _ Tryd.underlying29 rfl HMI.out ?_)
    | (refine wpList_load_g (by rfl) 29 (.tmp 3) rfl (g := ba + 1) (off := 0) rfl H5.out (cs := m2.cells) (t := 29) (fr := (0, 0)) (by simp) m2.cells (fun j hj => by rw [Nat.zero_add]) _ Tryd.underlying29 rfl HMI2.out ?_))
  refine (KO1.out _ H5.out).mono ?_
  rintro e w6 ⟨rfl, h6⟩
  have H6 := Lib.hid h6
  clear h6 H5 KO1
  go_wp2_with (first
    | (refine wpList_load_g (by rfl) 29 (.tmp 2) rfl (g := ba) (off := 0) rfl H6.out (cs := m.cells) (t := 29) (fr := (0, 0)) (by simp) m.cells (fun j hj => by rw [Nat.zero_add]) _ Tryd.underlying29 rfl HMI.out ?_)
    | (refine wpList_load_g (by rfl) 29 (.tmp 3) rfl (g := ba + 1) (off := 0) rfl H6.out (cs := m2.cells) (t := 29) (fr := (0, 0)) (by simp) m2.cells (fun j hj => by rw [Nat.zero_add]) _ Tryd.underlying29 rfl HMI2.out ?_))
  refine (KO2.out _ H6.out).mono ?_
  rintro e w7 ⟨rfl, h7⟩
  have H7 := Lib.hid h7
  clear h7 H6 KO2
  obtain ⟨F0, hF0⟩ : ∃ F0, F0 = [(ba + 1, Obj.cells m2.cells 29 (0, 0)), (ba, Obj.cells m.cells 29 (0, 0))] := ⟨_, rfl⟩
  have sx : ∀ v F, St W v (fun b => W.heap[b]?) F → (ba, Obj.cells m.cells 29 (0, 0)) ∈ F → (ba + 1, Obj.cells m2.cells 29 (0, 0)) ∈ F → v.rangeAt ba 0 m.cells.toList ∧ v.rangeAt (ba + 1) 0 m2.cells.toList := fun v F hv q1 q2 => ⟨hv.rangeAt (g := ba) (cs := m.cells) (t := 29) (fr := (0, 0)) q1 (fun j hj => by simp), hv.rangeAt (g := ba + 1) (cs := m2.cells) (t := 29) (fr := (0, 0)) q2 (fun j hj => by simp)⟩
  have kR1 := fun (v : World) (F : List (Nat × Obj)) (hv : St W v (fun b => W.heap[b]?) F) => rright13 TT.out m MI1.out.ok (by have := MI1.out.psz; omega) hv
  have kR2 := fun (v : World) (F : List (Nat × Obj)) (hv : St W v (fun b => W.heap[b]?) F) => rright13 TT.out m2 MI2.out.ok (by have := MI2.out.psz; omega) hv
  have kB1 := fun (v : World) (F : List (Nat × Obj)) (hv : St W v (fun b => W.heap[b]?) F) => pbytes TT.out MI1.out hv
  have kB2 := fun (v : World) (F : List (Nat × Obj)) (hv : St W v (fun b => W.heap[b]?) F) => pbytes TT.out MI2.out hv
  have hul : Tryd.prog.underlying 29 = some _ := Tryd.underlying29
  have hma : (Tryd.prog.info? 29).map (·.size) = some m.cells.toList.length := by rw [Array.length_toList]; exact HMI.out
  have hmb : (Tryd.prog.info? 29).map (·.size) = some m2.cells.toList.length := by rw [Array.length_toList]; exact HMI2.out
  rw [show m.val = .agg m.cells from rfl] at kR1 kB1
  rw [show m2.val = .agg m2.cells from rfl] at kR2 kB2
  obtain ⟨Ra, hRa⟩ : ∃ R, rightM m = R := ⟨_, rfl⟩
  obtain ⟨Rb, hRb⟩ : ∃ R, rightM m2 = R := ⟨_, rfl⟩
  rw [hRa] at kR1 kB1
  rw [hRb] at kR2 kB2
  have hx := H7.out.drew1
  have KR1 := Lib.hid kR1; have KR2 := Lib.hid kR2; have KB1 := Lib.hid kB1; have KB2 := Lib.hid kB2; have SX := Lib.hid sx; have HUL := Lib.hid hul; have HMA := Lib.hid hma; have HMB := Lib.hid hmb; have HRA := Lib.hid hRa; have HRB := Lib.hid hRb
  clear kR1 kR2 kB1 kB2 sx hul hma hmb hRa hRb hF0 F0
  cases Ra with
  | false =>
    clear KR2 KB1 KB2
    go_wp2_with fail
    refine wp_region_held_drew (S := fun v => v.rangeAt ba 0 m.cells.toList ∧ v.rangeAt (ba + 1) 0 m2.cells.toList) (by kernel_rfl) (SX.out _ _ hx (by simp) (by simp)) (fun hHeld => ?_)
    refine wpAnyH_take (i := 0) (oi := ?_) (v := ?_) ?_ ?_ ?_ ?_ ?_ ?_ ?_ ?_
    rotate_left 2
    · (simp only [List.getElem?_toArray, List.getElem?_cons_succ, List.getElem?_cons_zero]; exact rfl)
    · kernel_rfl
    · kernel_rfl
    · kernel_rfl
    · exact fun _ _ _ h => h
    · first | (first | ((refine yieldsIf_load_mid ?_ 29 (.tmp 2) ?_ ba 0 ?_ m.cells.toList _ ?_ HUL.out ?_ HMA.out) <;> first | rfl | exact fun w h => h.1) | ((refine yieldsIf_load_mid ?_ 29 (.tmp 3) ?_ (ba + 1) 0 ?_ m2.cells.toList _ ?_ HUL.out ?_ HMB.out) <;> first | rfl | exact fun w h => h.2)) | (refine Or.inr ⟨by rfl, ?_⟩; rfl)
    · assumption
    try simp only [Act.put, List.setIfInBounds_toArray, List.set_cons_zero, List.set_cons_succ]
    refine wpAnyH_ready (rs := [1]) (by kernel_rfl) (by simp) ?_
    refine AllReadyH.cons (o := ?_) ?_ (fun K hK => ?_) ?_
    rotate_left 1
    · (simp only [List.getElem?_toArray, List.getElem?_cons_succ, List.getElem?_cons_zero]; exact rfl)
    · go_simp
      (first | (go_at_call 17; (with_reducible refine (KR1.out _ _ hx).mono ?_); rintro e wx ⟨rfl, hx⟩; dsimp only) | (go_at_call 17; (with_reducible refine (KR2.out _ _ hx).mono ?_); rintro e wx ⟨rfl, hx⟩; dsimp only) | (go_at_call 18; (with_reducible refine (KB1.out _ _ hx).mono ?_); rintro e wx ⟨v5, rfl, A5, c5, L5, rfl, hr5, hx⟩; have hcv5 := HCX.out wx A5 c5 (hr5.src fun p hp => hx.own p (by simp [hp])); dsimp only) | (go_at_call 18; (with_reducible refine (KB2.out _ _ hx).mono ?_); rintro e wx ⟨v6, rfl, A6, c6, L6, rfl, hr6, hx⟩; have hcv6 := HCY.out wx A6 c6 (hr6.src fun p hp => hx.own p (by simp [hp])); have hcv5' := HCX.out wx A5 c5 (hr5.src fun p hp => hx.own p (by simp [hp])); dsimp only))
      refine hK.out _ _ ?_ (fun hHeld => ?_)
      · (try dsimp only) <;> (exact SX.out _ _ hx (by simp) (by simp))
      clear hK K
      try simp only [Act.put, List.setIfInBounds_toArray, List.set_cons_zero, List.set_cons_succ]
      refine wpAnyH_take (i := 2) (oi := ?_) (v := ?_) ?_ ?_ ?_ ?_ ?_ ?_ ?_ ?_
      rotate_left 2
      · (simp only [List.getElem?_toArray, List.getElem?_cons_succ, List.getElem?_cons_zero]; exact rfl)
      · kernel_rfl
      · kernel_rfl
      · kernel_rfl
      · exact fun _ _ _ h => h
      · first | (refine Or.inl ⟨by rfl, ?_⟩; intro w hSw; (try dsimp only at hSw); go_simp; try with_reducible rfl) | (refine Or.inr ⟨by rfl, ?_⟩; rfl)
      · assumption
      try simp only [Act.put, List.setIfInBounds_toArray, List.set_cons_zero, List.set_cons_succ]
      refine wpAnyH_take (i := 3) (oi := ?_) (v := ?_) ?_ ?_ ?_ ?_ ?_ ?_ ?_ ?_
      rotate_left 2
      · (simp only [List.getElem?_toArray, List.getElem?_cons_succ, List.getElem?_cons_zero]; exact rfl)
      · kernel_rfl
      · kernel_rfl
      · kernel_rfl
      · exact fun _ _ _ h => h
      · first | (refine Or.inl ⟨by rfl, ?_⟩; intro w hSw; (try dsimp only at hSw); go_simp; try with_reducible rfl) | (refine Or.inr ⟨by rfl, ?_⟩; rfl)
      · assumption
      try simp only [Act.put, List.setIfInBounds_toArray, List.set_cons_zero, List.set_cons_succ]
      refine wpAnyH_take (i := 4) (oi := ?_) (v := ?_) ?_ ?_ ?_ ?_ ?_ ?_ ?_ ?_
      rotate_left 2
      · (simp only [List.getElem?_toArray, List.getElem?_cons_succ, List.getElem?_cons_zero]; exact rfl)
      · kernel_rfl
      · kernel_rfl
      · kernel_rfl
      · exact fun _ _ _ h => h
      · (refine Or.inr ⟨by rfl, ?_⟩; rfl)
      · assumption
      try simp only [Act.put, List.setIfInBounds_toArray, List.set_cons_zero, List.set_cons_succ]
      refine wpAnyH_take (i := 5) (oi := ?_) (v := ?_) ?_ ?_ ?_ ?_ ?_ ?_ ?_ ?_
      rotate_left 2
      · (simp only [List.getElem?_toArray, List.getElem?_cons_succ, List.getElem?_cons_zero]; exact rfl)
      · kernel_rfl
      · kernel_rfl
      · kernel_rfl
      · exact fun _ _ _ h => h
      · (refine Or.inr ⟨by rfl, ?_⟩; rfl)
      · assumption
      try simp only [Act.put, List.setIfInBounds_toArray, List.set_cons_zero, List.set_cons_succ]
      refine wpAnyH_take (i := 6) (oi := ?_) (v := ?_) ?_ ?_ ?_ ?_ ?_ ?_ ?_ ?_
      rotate_left 2
      · (simp only [List.getElem?_toArray, List.getElem?_cons_succ, List.getElem?_cons_zero]; exact rfl)
      · kernel_rfl
      · kernel_rfl
      · kernel_rfl
      · exact fun _ _ _ h => h
      · (refine Or.inr ⟨by rfl, ?_⟩; rfl)
      · assumption
      try simp only [Act.put, List.setIfInBounds_toArray, List.set_cons_zero, List.set_cons_succ]
      refine wpAnyH_take (i := 7) (oi := ?_) (v := ?_) ?_ ?_ ?_ ?_ ?_ ?_ ?_ ?_
      rotate_left 2
      · (simp only [List.getElem?_toArray, List.getElem?_cons_succ, List.getElem?_cons_zero]; exact rfl)
      · kernel_rfl
      · kernel_rfl
      · kernel_rfl
      · exact fun _ _ _ h => h
      · first | (refine Or.inl ⟨by rfl, ?_⟩; intro w hSw; (try dsimp only at hSw); go_simp; try with_reducible rfl) | (refine Or.inr ⟨by rfl, ?_⟩; rfl)
      · assumption
      try simp only [Act.put, List.setIfInBounds_toArray, List.set_cons_zero, List.set_cons_succ]
      refine wpAnyH_take (i := 8) (oi := ?_) (v := ?_) ?_ ?_ ?_ ?_ ?_ ?_ ?_ ?_
      rotate_left 2
      · (simp only [List.getElem?_toArray, List.getElem?_cons_succ, List.getElem?_cons_zero]; exact rfl)
      · kernel_rfl
      · kernel_rfl
      · kernel_rfl
      · exact fun _ _ _ h => h
      · first | (refine Or.inl ⟨by rfl, ?_⟩; intro w hSw; (try dsimp only at hSw); go_simp; try with_reducible rfl) | (refine Or.inr ⟨by rfl, ?_⟩; rfl)
      · assumption
      try simp only [Act.put, List.setIfInBounds_toArray, List.set_cons_zero, List.set_cons_succ]
      refine wpAnyH_take (i := 9) (oi := ?_) (v := ?_) ?_ ?_ ?_ ?_ ?_ ?_ ?_ ?_
      rotate_left 2
      · (simp only [List.getElem?_toArray, List.getElem?_cons_succ, List.getElem?_cons_zero]; exact rfl)
      · kernel_rfl
      · kernel_rfl
      · kernel_rfl
      · exact fun _ _ _ h => h
      · (refine Or.inr ⟨by rfl, ?_⟩; rfl)
      · assumption
      try simp only [Act.put, List.setIfInBounds_toArray, List.set_cons_zero, List.set_cons_succ]
      refine wpAnyH_take (i := 10) (oi := ?_) (v := ?_) ?_ ?_ ?_ ?_ ?_ ?_ ?_ ?_
      rotate_left 2
      · (simp only [List.getElem?_toArray, List.getElem?_cons_succ, List.getElem?_cons_zero]; exact rfl)
      · kernel_rfl
      · kernel_rfl
      · kernel_rfl
      · exact fun _ _ _ h => h
      · (refine Or.inr ⟨by rfl, ?_⟩; rfl)
      · assumption
      try simp only [Act.put, List.setIfInBounds_toArray, List.set_cons_zero, List.set_cons_succ]
      refine wpAnyH_take (i := 11) (oi := ?_) (v := ?_) ?_ ?_ ?_ ?_ ?_ ?_ ?_ ?_
      rotate_left 2
      · (simp only [List.getElem?_toArray, List.getElem?_cons_succ, List.getElem?_cons_zero]; exact rfl)
      · kernel_rfl
      · kernel_rfl
      · kernel_rfl
      · exact fun _ _ _ h => h
      · (refine Or.inr ⟨by rfl, ?_⟩; rfl)
      · assumption
      try simp only [Act.put, List.setIfInBounds_toArray, List.set_cons_zero, List.set_cons_succ]
      refine wpAnyH_take (i := 12) (oi := ?_) (v := ?_) ?_ ?_ ?_ ?_ ?_ ?_ ?_ ?_
      rotate_left 2
      · (simp only [List.getElem?_toArray, List.getElem?_cons_succ, List.getElem?_cons_zero]; exact rfl)
      · kernel_rfl
      · kernel_rfl
      · kernel_rfl
      · exact fun _ _ _ h => h
      · (refine Or.inr ⟨by rfl, ?_⟩; rfl)
      · assumption
      try simp only [Act.put, List.setIfInBounds_toArray, List.set_cons_zero, List.set_cons_succ]
      refine wpAnyH_take (i := 13) (oi := ?_) (v := ?_) ?_ ?_ ?_ ?_ ?_ ?_ ?_ ?_
      rotate_left 2
      · (simp only [List.getElem?_toArray, List.getElem?_cons_succ, List.getElem?_cons_zero]; exact rfl)
      · kernel_rfl
      · kernel_rfl
      · kernel_rfl
      · exact fun _ _ _ h => h
      · (refine Or.inr ⟨by rfl, ?_⟩; rfl)
      · assumption
      try simp only [Act.put, List.setIfInBounds_toArray, List.set_cons_zero, List.set_cons_succ]
      refine wpAnyH_take (i := 14) (oi := ?_) (v := ?_) ?_ ?_ ?_ ?_ ?_ ?_ ?_ ?_
      rotate_left 2
      · (simp only [List.getElem?_toArray, List.getElem?_cons_succ, List.getElem?_cons_zero]; exact rfl)
      · kernel_rfl
      · kernel_rfl
      · kernel_rfl
      · exact fun _ _ _ h => h
      · (refine Or.inr ⟨by rfl, ?_⟩; rfl)
      · assumption
      try simp only [Act.put, List.setIfInBounds_toArray, List.set_cons_zero, List.set_cons_succ]
      refine wpAnyH_take (i := 15) (oi := ?_) (v := ?_) ?_ ?_ ?_ ?_ ?_ ?_ ?_ ?_
      rotate_left 2
      · (simp only [List.getElem?_toArray, List.getElem?_cons_succ, List.getElem?_cons_zero]; exact rfl)
      · kernel_rfl
      · kernel_rfl
      · kernel_rfl
      · exact fun _ _ _ h => h
      · (refine Or.inr ⟨by rfl, ?_⟩; rfl)
      · assumption
      try simp only [Act.put, List.setIfInBounds_toArray, List.set_cons_zero, List.set_cons_succ]
      refine wpAnyH_take (i := 16) (oi := ?_) (v := ?_) ?_ ?_ ?_ ?_ ?_ ?_ ?_ ?_
      rotate_left 2
      · (simp only [List.getElem?_toArray, List.getElem?_cons_succ, List.getElem?_cons_zero]; exact rfl)
      · kernel_rfl
      · kernel_rfl
      · kernel_rfl
      · exact fun _ _ _ h => h
      · (refine Or.inr ⟨by rfl, ?_⟩; rfl)
      · assumption
      try simp only [Act.put, List.setIfInBounds_toArray, List.set_cons_zero, List.set_cons_succ]
      refine wpAnyH_take (i := 17) (oi := ?_) (v := ?_) ?_ ?_ ?_ ?_ ?_ ?_ ?_ ?_
      rotate_left 2
      · (simp only [List.getElem?_toArray, List.getElem?_cons_succ, List.getElem?_cons_zero]; exact rfl)
      · kernel_rfl
      · kernel_rfl
      · kernel_rfl
      · exact fun _ _ _ h => h
      · (refine Or.inr ⟨by rfl, ?_⟩; rfl)
      · assumption
      try simp only [Act.put, List.setIfInBounds_toArray, List.set_cons_zero, List.set_cons_succ]
      refine wpAnyH_take (i := 18) (oi := ?_) (v := ?_) ?_ ?_ ?_ ?_ ?_ ?_ ?_ ?_
      rotate_left 2
      · (simp only [List.getElem?_toArray, List.getElem?_cons_succ, List.getElem?_cons_zero]; exact rfl)
      · kernel_rfl
      · kernel_rfl
      · kernel_rfl
      · exact fun _ _ _ h => h
      · first | (refine Or.inl ⟨by rfl, ?_⟩; intro w hSw; (try dsimp only at hSw); go_simp; try with_reducible rfl) | (refine Or.inr ⟨by rfl, ?_⟩; rfl)
      · assumption
      try simp only [Act.put, List.setIfInBounds_toArray, List.set_cons_zero, List.set_cons_succ]
      refine wpAnyH_take (i := 19) (oi := ?_) (v := ?_) ?_ ?_ ?_ ?_ ?_ ?_ ?_ ?_
      rotate_left 2
      · (simp only [List.getElem?_toArray, List.getElem?_cons_succ, List.getElem?_cons_zero]; exact rfl)
      · kernel_rfl
      · kernel_rfl
      · kernel_rfl
      · exact fun _ _ _ h => h
      · first | (refine Or.inl ⟨by rfl, ?_⟩; intro w hSw; (try dsimp only at hSw); go_simp; try with_reducible rfl) | (refine Or.inr ⟨by rfl, ?_⟩; rfl)
      · assumption
      try simp only [Act.put, List.setIfInBounds_toArray, List.set_cons_zero, List.set_cons_succ]
      refine wpAnyH_done (by kernel_rfl) ?_ _
      have HF : Hid (Below W.heap.size W _) := Lib.hid (hx.below (Le.refl _))
      go_wp2_with fail
      go_ret
      exact ⟨by first | rfl | simp, HF.out⟩
    exact AllReadyH.nil
  | true =>
  cases Rb with
  | false =>
    clear KB1 KB2
    go_wp2_with fail
    refine wp_region_held_drew (S := fun v => v.rangeAt ba 0 m.cells.toList ∧ v.rangeAt (ba + 1) 0 m2.cells.toList) (by kernel_rfl) (SX.out _ _ hx (by simp) (by simp)) (fun hHeld => ?_)
    refine wpAnyH_take (i := 0) (oi := ?_) (v := ?_) ?_ ?_ ?_ ?_ ?_ ?_ ?_ ?_
    rotate_left 2
    · (simp only [List.getElem?_toArray, List.getElem?_cons_succ, List.getElem?_cons_zero]; exact rfl)
    · kernel_rfl
    · kernel_rfl
    · kernel_rfl
    · exact fun _ _ _ h => h
    · first | (first | ((refine yieldsIf_load_mid ?_ 29 (.tmp 2) ?_ ba 0 ?_ m.cells.toList _ ?_ HUL.out ?_ HMA.out) <;> first | rfl | exact fun w h => h.1) | ((refine yieldsIf_load_mid ?_ 29 (.tmp 3) ?_ (ba + 1) 0 ?_ m2.cells.toList _ ?_ HUL.out ?_ HMB.out) <;> first | rfl | exact fun w h => h.2)) | (refine Or.inr ⟨by rfl, ?_⟩; rfl)
    · assumption
    try simp only [Act.put, List.setIfInBounds_toArray, List.set_cons_zero, List.set_cons_succ]
    refine wpAnyH_ready (rs := [1]) (by kernel_rfl) (by simp) ?_
    refine AllReadyH.cons (o := ?_) ?_ (fun K hK => ?_) ?_
    rotate_left 1
    · (simp only [List.getElem?_toArray, List.getElem?_cons_succ, List.getElem?_cons_zero]; exact rfl)
    · go_simp
      (first | (go_at_call 17; (with_reducible refine (KR1.out _ _ hx).mono ?_); rintro e wx ⟨rfl, hx⟩; dsimp only) | (go_at_call 17; (with_reducible refine (KR2.out _ _ hx).mono ?_); rintro e wx ⟨rfl, hx⟩; dsimp only) | (go_at_call 18; (with_reducible refine (KB1.out _ _ hx).mono ?_); rintro e wx ⟨v5, rfl, A5, c5, L5, rfl, hr5, hx⟩; have hcv5 := HCX.out wx A5 c5 (hr5.src fun p hp => hx.own p (by simp [hp])); dsimp only) | (go_at_call 18; (with_reducible refine (KB2.out _ _ hx).mono ?_); rintro e wx ⟨v6, rfl, A6, c6, L6, rfl, hr6, hx⟩; have hcv6 := HCY.out wx A6 c6 (hr6.src fun p hp => hx.own p (by simp [hp])); have hcv5' := HCX.out wx A5 c5 (hr5.src fun p hp => hx.own p (by simp [hp])); dsimp only))
      refine hK.out _ _ ?_ (fun hHeld => ?_)
      · (try dsimp only) <;> (exact SX.out _ _ hx (by simp) (by simp))
      clear hK K
      try simp only [Act.put, List.setIfInBounds_toArray, List.set_cons_zero, List.set_cons_succ]
      refine wpAnyH_take (i := 2) (oi := ?_) (v := ?_) ?_ ?_ ?_ ?_ ?_ ?_ ?_ ?_
      rotate_left 2
      · (simp only [List.getElem?_toArray, List.getElem?_cons_succ, List.getElem?_cons_zero]; exact rfl)
      · kernel_rfl
      · kernel_rfl
      · kernel_rfl
      · exact fun _ _ _ h => h
      · first | (refine Or.inl ⟨by rfl, ?_⟩; intro w hSw; (try dsimp only at hSw); go_simp; try with_reducible rfl) | (refine Or.inr ⟨by rfl, ?_⟩; rfl)
      · assumption
      try simp only [Act.put, List.setIfInBounds_toArray, List.set_cons_zero, List.set_cons_succ]
      refine wpAnyH_take (i := 3) (oi := ?_) (v := ?_) ?_ ?_ ?_ ?_ ?_ ?_ ?_ ?_
      rotate_left 2
      · (simp only [List.getElem?_toArray, List.getElem?_cons_succ, List.getElem?_cons_zero]; exact rfl)
      · kernel_rfl
      · kernel_rfl
      · kernel_rfl
      · exact fun _ _ _ h => h
      · first | (refine Or.inl ⟨by rfl, ?_⟩; intro w hSw; (try dsimp only at hSw); go_simp; try with_reducible rfl) | (refine Or.inr ⟨by rfl, ?_⟩; rfl)
      · assumption
      try simp only [Act.put, List.setIfInBounds_toArray, List.set_cons_zero, List.set_cons_succ]
      refine wpAnyH_take (i := 4) (oi := ?_) (v := ?_) ?_ ?_ ?_ ?_ ?_ ?_ ?_ ?_
      rotate_left 2
      · (simp only [List.getElem?_toArray, List.getElem?_cons_succ, List.getElem?_cons_zero]; exact rfl)
      · kernel_rfl
      · kernel_rfl
      · kernel_rfl
      · exact fun _ _ _ h => h
      · first | (first | ((refine yieldsIf_load_mid ?_ 29 (.tmp 2) ?_ ba 0 ?_ m.cells.toList _ ?_ HUL.out ?_ HMA.out) <;> first | rfl | exact fun w h => h.1) | ((refine yieldsIf_load_mid ?_ 29 (.tmp 3) ?_ (ba + 1) 0 ?_ m2.cells.toList _ ?_ HUL.out ?_ HMB.out) <;> first | rfl | exact fun w h => h.2)) | (refine Or.inr ⟨by rfl, ?_⟩; rfl)
      · assumption
      try simp only [Act.put, List.setIfInBounds_toArray, List.set_cons_zero, List.set_cons_succ]
      refine wpAnyH_ready (rs := [5]) (by kernel_rfl) (by simp) ?_
      refine AllReadyH.cons (o := ?_) ?_ (fun K hK => ?_) ?_
      rotate_left 1
      · (simp only [List.getElem?_toArray, List.getElem?_cons_succ, List.getElem?_cons_zero]; exact rfl)
      · go_simp
        (first | (go_at_call 17; (with_reducible refine (KR1.out _ _ hx).mono ?_); rintro e wx ⟨rfl, hx⟩; dsimp only) | (go_at_call 17; (with_reducible refine (KR2.out _ _ hx).mono ?_); rintro e wx ⟨rfl, hx⟩; dsimp only) | (go_at_call 18; (with_reducible refine (KB1.out _ _ hx).mono ?_); rintro e wx ⟨v5, rfl, A5, c5, L5, rfl, hr5, hx⟩; have hcv5 := HCX.out wx A5 c5 (hr5.src fun p hp => hx.own p (by simp [hp])); dsimp only) | (go_at_call 18; (with_reducible refine (KB2.out _ _ hx).mono ?_); rintro e wx ⟨v6, rfl, A6, c6, L6, rfl, hr6, hx⟩; have hcv6 := HCY.out wx A6 c6 (hr6.src fun p hp => hx.own p (by simp [hp])); have hcv5' := HCX.out wx A5 c5 (hr5.src fun p hp => hx.own p (by simp [hp])); dsimp only))
        refine hK.out _ _ ?_ (fun hHeld => ?_)
        · (try dsimp only) <;> (exact SX.out _ _ hx (by simp) (by simp))
        clear hK K
        try simp only [Act.put, List.setIfInBounds_toArray, List.set_cons_zero, List.set_cons_succ]
        refine wpAnyH_take (i := 6) (oi := ?_) (v := ?_) ?_ ?_ ?_ ?_ ?_ ?_ ?_ ?_
        rotate_left 2
        · (simp only [List.getElem?_toArray, List.getElem?_cons_succ, List.getElem?_cons_zero]; exact rfl)
        · kernel_rfl
        · kernel_rfl
        · kernel_rfl
        · exact fun _ _ _ h => h
        · first | (refine Or.inl ⟨by rfl, ?_⟩; intro w hSw; (try dsimp only at hSw); go_simp; try with_reducible rfl) | (refine Or.inr ⟨by rfl, ?_⟩; rfl)
        · assumption
        try simp only [Act.put, List.setIfInBounds_toArray, List.set_cons_zero, List.set_cons_succ]
        refine wpAnyH_take (i := 7) (oi := ?_) (v := ?_) ?_ ?_ ?_ ?_ ?_ ?_ ?_ ?_
        rotate_left 2
        · (simp only [List.getElem?_toArray, List.getElem?_cons_succ, List.getElem?_cons_zero]; exact rfl)
        · kernel_rfl
        · kernel_rfl
        · kernel_rfl
        · exact fun _ _ _ h => h
        · first | (refine Or.inl ⟨by rfl, ?_⟩; intro w hSw; (try dsimp only at hSw); go_simp; try with_reducible rfl) | (refine Or.inr ⟨by rfl, ?_⟩; rfl)
        · assumption
        try simp only [Act.put, List.setIfInBounds_toArray, List.set_cons_zero, List.set_cons_succ]
        refine wpAnyH_take (i := 8) (oi := ?_) (v := ?_) ?_ ?_ ?_ ?_ ?_ ?_ ?_ ?_
        rotate_left 2
        · (simp only [List.getElem?_toArray, List.getElem?_cons_succ, List.getElem?_cons_zero]; exact rfl)
        · kernel_rfl
        · kernel_rfl
        · kernel_rfl
        · exact fun _ _ _ h => h
        · first | (refine Or.inl ⟨by rfl, ?_⟩; intro w hSw; (try dsimp only at hSw); go_simp; try with_reducible rfl) | (refine Or.inr ⟨by rfl, ?_⟩; rfl)
        · assumption
        try simp only [Act.put, List.setIfInBounds_toArray, List.set_cons_zero, List.set_cons_succ]
        refine wpAnyH_take (i := 9) (oi := ?_) (v := ?_) ?_ ?_ ?_ ?_ ?_ ?_ ?_ ?_
        rotate_left 2
        · (simp only [List.getElem?_toArray, List.getElem?_cons_succ, List.getElem?_cons_zero]; exact rfl)
        · kernel_rfl
        · kernel_rfl
        · kernel_rfl
        · exact fun _ _ _ h => h
        · (refine Or.inr ⟨by rfl, ?_⟩; rfl)
        · assumption
        try simp only [Act.put, List.setIfInBounds_toArray, List.set_cons_zero, List.set_cons_succ]
        refine wpAnyH_take (i := 10) (oi := ?_) (v := ?_) ?_ ?_ ?_ ?_ ?_ ?_ ?_ ?_
        rotate_left 2
        · (simp only [List.getElem?_toArray, List.getElem?_cons_succ, List.getElem?_cons_zero]; exact rfl)
        · kernel_rfl
        · kernel_rfl
        · kernel_rfl
        · exact fun _ _ _ h => h
        · (refine Or.inr ⟨by rfl, ?_⟩; rfl)
        · assumption
        try simp only [Act.put, List.setIfInBounds_toArray, List.set_cons_zero, List.set_cons_succ]
        refine wpAnyH_take (i := 11) (oi := ?_) (v := ?_) ?_ ?_ ?_ ?_ ?_ ?_ ?_ ?_
        rotate_left 2
        · (simp only [List.getElem?_toArray, List.getElem?_cons_succ, List.getElem?_cons_zero]; exact rfl)
        · kernel_rfl
        · kernel_rfl
        · kernel_rfl
        · exact fun _ _ _ h => h
        · (refine Or.inr ⟨by rfl, ?_⟩; rfl)
        · assumption
        try simp only [Act.put, List.setIfInBounds_toArray, List.set_cons_zero, List.set_cons_succ]
        refine wpAnyH_take (i := 12) (oi := ?_) (v := ?_) ?_ ?_ ?_ ?_ ?_ ?_ ?_ ?_
        rotate_left 2
        · (simp only [List.getElem?_toArray, List.getElem?_cons_succ, List.getElem?_cons_zero]; exact rfl)
        · kernel_rfl
        · kernel_rfl
        · kernel_rfl
        · exact fun _ _ _ h => h
        · (refine Or.inr ⟨by rfl, ?_⟩; rfl)
        · assumption
        try simp only [Act.put, List.setIfInBounds_toArray, List.set_cons_zero, List.set_cons_succ]
        refine wpAnyH_take (i := 13) (oi := ?_) (v := ?_) ?_ ?_ ?_ ?_ ?_ ?_ ?_ ?_
        rotate_left 2
        · (simp only [List.getElem?_toArray, List.getElem?_cons_succ, List.getElem?_cons_zero]; exact rfl)
        · kernel_rfl
        · kernel_rfl
        · kernel_rfl
        · exact fun _ _ _ h => h
        · (refine Or.inr ⟨by rfl, ?_⟩; rfl)
        · assumption
        try simp only [Act.put, List.setIfInBounds_toArray, List.set_cons_zero, List.set_cons_succ]
        refine wpAnyH_take (i := 14) (oi := ?_) (v := ?_) ?_ ?_ ?_ ?_ ?_ ?_ ?_ ?_
        rotate_left 2
        · (simp only [List.getElem?_toArray, List.getElem?_cons_succ, List.getElem?_cons_zero]; exact rfl)
        · kernel_rfl
        · kernel_rfl
        · kernel_rfl
        · exact fun _ _ _ h => h
        · (refine Or.inr ⟨by rfl, ?_⟩; rfl)
        · assumption
        try simp only [Act.put, List.setIfInBounds_toArray, List.set_cons_zero, List.set_cons_succ]
        refine wpAnyH_take (i := 15) (oi := ?_) (v := ?_) ?_ ?_ ?_ ?_ ?_ ?_ ?_ ?_
        rotate_left 2
        · (simp only [List.getElem?_toArray, List.getElem?_cons_succ, List.getElem?_cons_zero]; exact rfl)
        · kernel_rfl
        · kernel_rfl
        · kernel_rfl
        · exact fun _ _ _ h => h
        · (refine Or.inr ⟨by rfl, ?_⟩; rfl)
        · assumption
        try simp only [Act.put, List.setIfInBounds_toArray, List.set_cons_zero, List.set_cons_succ]
        refine wpAnyH_take (i := 16) (oi := ?_) (v := ?_) ?_ ?_ ?_ ?_ ?_ ?_ ?_ ?_
        rotate_left 2
        · (simp only [List.getElem?_toArray, List.getElem?_cons_succ, List.getElem?_cons_zero]; exact rfl)
        · kernel_rfl
        · kernel_rfl
        · kernel_rfl
        · exact fun _ _ _ h => h
        · (refine Or.inr ⟨by rfl, ?_⟩; rfl)
        · assumption
        try simp only [Act.put, List.setIfInBounds_toArray, List.set_cons_zero, List.set_cons_succ]
        refine wpAnyH_take (i := 17) (oi := ?_) (v := ?_) ?_ ?_ ?_ ?_ ?_ ?_ ?_ ?_
        rotate_left 2
        · (simp only [List.getElem?_toArray, List.getElem?_cons_succ, List.getElem?_cons_zero]; exact rfl)
        · kernel_rfl
        · kernel_rfl
        · kernel_rfl
        · exact fun _ _ _ h => h
        · (refine Or.inr ⟨by rfl, ?_⟩; rfl)
        · assumption
        try simp only [Act.put, List.setIfInBounds_toArray, List.set_cons_zero, List.set_cons_succ]
        refine wpAnyH_take (i := 18) (oi := ?_) (v := ?_) ?_ ?_ ?_ ?_ ?_ ?_ ?_ ?_
        rotate_left 2
        · (simp only [List.getElem?_toArray, List.getElem?_cons_succ, List.getElem?_cons_zero]; exact rfl)
        · kernel_rfl
        · kernel_rfl
        · kernel_rfl
        · exact fun _ _ _ h => h
        · first | (refine Or.inl ⟨by rfl, ?_⟩; intro w hSw; (try dsimp only at hSw); go_simp; try with_reducible rfl) | (refine Or.inr ⟨by rfl, ?_⟩; rfl)
        · assumption
        try simp only [Act.put, List.setIfInBounds_toArray, List.set_cons_zero, List.set_cons_succ]
        refine wpAnyH_take (i := 19) (oi := ?_) (v := ?_) ?_ ?_ ?_ ?_ ?_ ?_ ?_ ?_
        rotate_left 2
        · (simp only [List.getElem?_toArray, List.getElem?_cons_succ, List.getElem?_cons_zero]; exact rfl)
        · kernel_rfl
        · kernel_rfl
        · kernel_rfl
        · exact fun _ _ _ h => h
        · first | (refine Or.inl ⟨by rfl, ?_⟩; intro w hSw; (try dsimp only at hSw); go_simp; try with_reducible rfl) | (refine Or.inr ⟨by rfl, ?_⟩; rfl)
        · assumption
        try simp only [Act.put, List.setIfInBounds_toArray, List.set_cons_zero, List.set_cons_succ]
        refine wpAnyH_done (by kernel_rfl) ?_ _
        have HF : Hid (Below W.heap.size W _) := Lib.hid (hx.below (Le.refl _))
        go_wp2_with fail
        go_ret
        exact ⟨by first | rfl | simp, HF.out⟩
      exact AllReadyH.nil
    exact AllReadyH.nil
  | true =>
  have hiff : decide (mBy m hs = mBy m2 hs2) = S := by
    rw [← HS.out, ← sameM_dat]
    exact mBy_iff MI1.out.ok MI2.out.ok MI1.out.n MI2.out.n MI1.out.hin.len MI2.out.hin.len HRA.out HRB.out
  obtain ⟨X, hX⟩ : ∃ X, mBy m hs = X := ⟨_, rfl⟩
  obtain ⟨Y, hY⟩ : ∃ Y, mBy m2 hs2 = Y := ⟨_, rfl⟩
  simp only [if_pos] at KB1 KB2
  rw [hX] at hiff KB1
  rw [hY] at hiff KB2
  obtain ⟨sX, hsX⟩ : ∃ s, pA X = s := ⟨_, rfl⟩
  obtain ⟨sY, hsY⟩ : ∃ s, pA Y = s := ⟨_, rfl⟩
  have hcx : ∀ (v : World) (A : Option Addr) (c : Nat), Src v 1 A X.length (X.map bval) → (convert 22 9 (.slice A X.length c)).run Tryd.prog v = .ok (.string sX) v := fun v A c h => by
    rw [← hsX]
    exact conv_str (P := Tryd.prog) Tryd.underlying22 Tryd.underlying5 Tryd.underlying9 (c := c) h
  have hcy : ∀ (v : World) (A : Option Addr) (c : Nat), Src v 1 A Y.length (Y.map bval) → (convert 22 9 (.slice A Y.length c)).run Tryd.prog v = .ok (.string sY) v := fun v A c h => by
    rw [← hsY]
    exact conv_str (P := Tryd.prog) Tryd.underlying22 Tryd.underlying5 Tryd.underlying9 (c := c) h
  have HCX := Lib.hid hcx; have HCY := Lib.hid hcy
  clear hX hY hcx hcy HRA HRB HS
  cases S with
  | true =>
    obtain rfl : sX = sY := by rw [← hsX, ← hsY, of_decide_eq_true hiff]
    clear hiff hsX hsY
    go_wp2_with fail
    refine wp_region_held_drew (S := fun v => v.rangeAt ba 0 m.cells.toList ∧ v.rangeAt (ba + 1) 0 m2.cells.toList) (by kernel_rfl) (SX.out _ _ hx (by simp) (by simp)) (fun hHeld => ?_)
    refine wpAnyH_take (i := 0) (oi := ?_) (v := ?_) ?_ ?_ ?_ ?_ ?_ ?_ ?_ ?_
    rotate_left 2
    · (simp only [List.getElem?_toArray, List.getElem?_cons_succ, List.getElem?_cons_zero]; exact rfl)
    · kernel_rfl
    · kernel_rfl
    · kernel_rfl
    · exact fun _ _ _ h => h
    · first | (first | ((refine yieldsIf_load_mid ?_ 29 (.tmp 2) ?_ ba 0 ?_ m.cells.toList _ ?_ HUL.out ?_ HMA.out) <;> first | rfl | exact fun w h => h.1) | ((refine yieldsIf_load_mid ?_ 29 (.tmp 3) ?_ (ba + 1) 0 ?_ m2.cells.toList _ ?_ HUL.out ?_ HMB.out) <;> first | rfl | exact fun w h => h.2)) | (refine Or.inr ⟨by rfl, ?_⟩; rfl)
    · assumption
    try simp only [Act.put, List.setIfInBounds_toArray, List.set_cons_zero, List.set_cons_succ]
    refine wpAnyH_ready (rs := [1]) (by kernel_rfl) (by simp) ?_
    refine AllReadyH.cons (o := ?_) ?_ (fun K hK => ?_) ?_
    rotate_left 1
    · (simp only [List.getElem?_toArray, List.getElem?_cons_succ, List.getElem?_cons_zero]; exact rfl)
    · go_simp
      (first | (go_at_call 17; (with_reducible refine (KR1.out _ _ hx).mono ?_); rintro e wx ⟨rfl, hx⟩; dsimp only) | (go_at_call 17; (with_reducible refine (KR2.out _ _ hx).mono ?_); rintro e wx ⟨rfl, hx⟩; dsimp only) | (go_at_call 18; (with_reducible refine (KB1.out _ _ hx).mono ?_); rintro e wx ⟨v5, rfl, A5, c5, L5, rfl, hr5, hx⟩; have hcv5 := HCX.out wx A5 c5 (hr5.src fun p hp => hx.own p (by simp [hp])); dsimp only) | (go_at_call 18; (with_reducible refine (KB2.out _ _ hx).mono ?_); rintro e wx ⟨v6, rfl, A6, c6, L6, rfl, hr6, hx⟩; have hcv6 := HCY.out wx A6 c6 (hr6.src fun p hp => hx.own p (by simp [hp])); have hcv5' := HCX.out wx A5 c5 (hr5.src fun p hp => hx.own p (by simp [hp])); dsimp only))
      refine hK.out _ _ ?_ (fun hHeld => ?_)
      · (try dsimp only) <;> (exact SX.out _ _ hx (by simp) (by simp))
      clear hK K
      try simp only [Act.put, List.setIfInBounds_toArray, List.set_cons_zero, List.set_cons_succ]
      refine wpAnyH_take (i := 2) (oi := ?_) (v := ?_) ?_ ?_ ?_ ?_ ?_ ?_ ?_ ?_
      rotate_left 2
      · (simp only [List.getElem?_toArray, List.getElem?_cons_succ, List.getElem?_cons_zero]; exact rfl)
      · kernel_rfl
      · kernel_rfl
      · kernel_rfl
      · exact fun _ _ _ h => h
      · first | (refine Or.inl ⟨by rfl, ?_⟩; intro w hSw; (try dsimp only at hSw); go_simp; try with_reducible rfl) | (refine Or.inr ⟨by rfl, ?_⟩; rfl)
      · assumption
      try simp only [Act.put, List.setIfInBounds_toArray, List.set_cons_zero, List.set_cons_succ]
      refine wpAnyH_take (i := 3) (oi := ?_) (v := ?_) ?_ ?_ ?_ ?_ ?_ ?_ ?_ ?_
      rotate_left 2
      · (simp only [List.getElem?_toArray, List.getElem?_cons_succ, List.getElem?_cons_zero]; exact rfl)
      · kernel_rfl
      · kernel_rfl
      · kernel_rfl
      · exact fun _ _ _ h => h
      · first | (refine Or.inl ⟨by rfl, ?_⟩; intro w hSw; (try dsimp only at hSw); go_simp; try with_reducible rfl) | (refine Or.inr ⟨by rfl, ?_⟩; rfl)
      · assumption
      try simp only [Act.put, List.setIfInBounds_toArray, List.set_cons_zero, List.set_cons_succ]
      refine wpAnyH_take (i := 4) (oi := ?_) (v := ?_) ?_ ?_ ?_ ?_ ?_ ?_ ?_ ?_
      rotate_left 2
      · (simp only [List.getElem?_toArray, List.getElem?_cons_succ, List.getElem?_cons_zero]; exact rfl)
      · kernel_rfl
      · kernel_rfl
      · kernel_rfl
      · exact fun _ _ _ h => h
      · first | (first | ((refine yieldsIf_load_mid ?_ 29 (.tmp 2) ?_ ba 0 ?_ m.cells.toList _ ?_ HUL.out ?_ HMA.out) <;> first | rfl | exact fun w h => h.1) | ((refine yieldsIf_load_mid ?_ 29 (.tmp 3) ?_ (ba + 1) 0 ?_ m2.cells.toList _ ?_ HUL.out ?_ HMB.out) <;> first | rfl | exact fun w h => h.2)) | (refine Or.inr ⟨by rfl, ?_⟩; rfl)
      · assumption
      try simp only [Act.put, List.setIfInBounds_toArray, List.set_cons_zero, List.set_cons_succ]
      refine wpAnyH_ready (rs := [5]) (by kernel_rfl) (by simp) ?_
      refine AllReadyH.cons (o := ?_) ?_ (fun K hK => ?_) ?_
      rotate_left 1
      · (simp only [List.getElem?_toArray, List.getElem?_cons_succ, List.getElem?_cons_zero]; exact rfl)
      · go_simp
        (first | (go_at_call 17; (with_reducible refine (KR1.out _ _ hx).mono ?_); rintro e wx ⟨rfl, hx⟩; dsimp only) | (go_at_call 17; (with_reducible refine (KR2.out _ _ hx).mono ?_); rintro e wx ⟨rfl, hx⟩; dsimp only) | (go_at_call 18; (with_reducible refine (KB1.out _ _ hx).mono ?_); rintro e wx ⟨v5, rfl, A5, c5, L5, rfl, hr5, hx⟩; have hcv5 := HCX.out wx A5 c5 (hr5.src fun p hp => hx.own p (by simp [hp])); dsimp only) | (go_at_call 18; (with_reducible refine (KB2.out _ _ hx).mono ?_); rintro e wx ⟨v6, rfl, A6, c6, L6, rfl, hr6, hx⟩; have hcv6 := HCY.out wx A6 c6 (hr6.src fun p hp => hx.own p (by simp [hp])); have hcv5' := HCX.out wx A5 c5 (hr5.src fun p hp => hx.own p (by simp [hp])); dsimp only))
        refine hK.out _ _ ?_ (fun hHeld => ?_)
        · (try dsimp only) <;> (exact SX.out _ _ hx (by simp) (by simp))
        clear hK K
        try simp only [Act.put, List.setIfInBounds_toArray, List.set_cons_zero, List.set_cons_succ]
        refine wpAnyH_take (i := 6) (oi := ?_) (v := ?_) ?_ ?_ ?_ ?_ ?_ ?_ ?_ ?_
        rotate_left 2
        · (simp only [List.getElem?_toArray, List.getElem?_cons_succ, List.getElem?_cons_zero]; exact rfl)
        · kernel_rfl
        · kernel_rfl
        · kernel_rfl
        · exact fun _ _ _ h => h
        · first | (refine Or.inl ⟨by rfl, ?_⟩; intro w hSw; (try dsimp only at hSw); go_simp; try with_reducible rfl) | (refine Or.inr ⟨by rfl, ?_⟩; rfl)
        · assumption
        try simp only [Act.put, List.setIfInBounds_toArray, List.set_cons_zero, List.set_cons_succ]
        refine wpAnyH_take (i := 7) (oi := ?_) (v := ?_) ?_ ?_ ?_ ?_ ?_ ?_ ?_ ?_
        rotate_left 2
        · (simp only [List.getElem?_toArray, List.getElem?_cons_succ, List.getElem?_cons_zero]; exact rfl)
        · kernel_rfl
        · kernel_rfl
        · kernel_rfl
        · exact fun _ _ _ h => h
        · first | (refine Or.inl ⟨by rfl, ?_⟩; intro w hSw; (try dsimp only at hSw); go_simp; try with_reducible rfl) | (refine Or.inr ⟨by rfl, ?_⟩; rfl)
        · assumption
        try simp only [Act.put, List.setIfInBounds_toArray, List.set_cons_zero, List.set_cons_succ]
        refine wpAnyH_take (i := 8) (oi := ?_) (v := ?_) ?_ ?_ ?_ ?_ ?_ ?_ ?_ ?_
        rotate_left 2
        · (simp only [List.getElem?_toArray, List.getElem?_cons_succ, List.getElem?_cons_zero]; exact rfl)
        · kernel_rfl
        · kernel_rfl
        · kernel_rfl
        · exact fun _ _ _ h => h
        · first | (refine Or.inl ⟨by rfl, ?_⟩; intro w hSw; (try dsimp only at hSw); go_simp; try with_reducible rfl) | (refine Or.inr ⟨by rfl, ?_⟩; rfl)
        · assumption
        try simp only [Act.put, List.setIfInBounds_toArray, List.set_cons_zero, List.set_cons_succ]
        refine wpAnyH_take (i := 9) (oi := ?_) (v := ?_) ?_ ?_ ?_ ?_ ?_ ?_ ?_ ?_
        rotate_left 2
        · (simp only [List.getElem?_toArray, List.getElem?_cons_succ, List.getElem?_cons_zero]; exact rfl)
        · kernel_rfl
        · kernel_rfl
        · kernel_rfl
        · exact fun _ _ _ h => h
        · first | (first | ((refine yieldsIf_load_mid ?_ 29 (.tmp 2) ?_ ba 0 ?_ m.cells.toList _ ?_ HUL.out ?_ HMA.out) <;> first | rfl | exact fun w h => h.1) | ((refine yieldsIf_load_mid ?_ 29 (.tmp 3) ?_ (ba + 1) 0 ?_ m2.cells.toList _ ?_ HUL.out ?_ HMB.out) <;> first | rfl | exact fun w h => h.2)) | (refine Or.inr ⟨by rfl, ?_⟩; rfl)
        · assumption
        try simp only [Act.put, List.setIfInBounds_toArray, List.set_cons_zero, List.set_cons_succ]
        refine wpAnyH_take (i := 12) (oi := ?_) (v := ?_) ?_ ?_ ?_ ?_ ?_ ?_ ?_ ?_
        rotate_left 2
        · (simp only [List.getElem?_toArray, List.getElem?_cons_succ, List.getElem?_cons_zero]; exact rfl)
        · kernel_rfl
        · kernel_rfl
        · kernel_rfl
        · exact fun _ _ _ h => h
        · first | (first | ((refine yieldsIf_load_mid ?_ 29 (.tmp 2) ?_ ba 0 ?_ m.cells.toList _ ?_ HUL.out ?_ HMA.out) <;> first | rfl | exact fun w h => h.1) | ((refine yieldsIf_load_mid ?_ 29 (.tmp 3) ?_ (ba + 1) 0 ?_ m2.cells.toList _ ?_ HUL.out ?_ HMB.out) <;> first | rfl | exact fun w h => h.2)) | (refine Or.inr ⟨by rfl, ?_⟩; rfl)
        · assumption
        try simp only [Act.put, List.setIfInBounds_toArray, List.set_cons_zero, List.set_cons_succ]
        refine wpAnyH_take (i := 16) (oi := ?_) (v := ?_) ?_ ?_ ?_ ?_ ?_ ?_ ?_ ?_
        rotate_left 2
        · (simp only [List.getElem?_toArray, List.getElem?_cons_succ, List.getElem?_cons_zero]; exact rfl)
        · kernel_rfl
        · kernel_rfl
        · kernel_rfl
        · exact fun _ _ _ h => h
        · first | (refine Or.inl ⟨by rfl, ?_⟩; intro w hSw; (try dsimp only at hSw); go_simp; try with_reducible rfl) | (refine Or.inr ⟨by rfl, ?_⟩; rfl)
        · assumption
        try simp only [Act.put, List.setIfInBounds_toArray, List.set_cons_zero, List.set_cons_succ]
        refine wpAnyH_ready (rs := [10]) (by kernel_rfl) (by simp) ?_
        refine AllReadyH.cons (o := ?_) ?_ (fun K hK => ?_) ?_
        rotate_left 1
        · (simp only [List.getElem?_toArray, List.getElem?_cons_succ, List.getElem?_cons_zero]; exact rfl)
        · go_simp
          (first | (go_at_call 17; (with_reducible refine (KR1.out _ _ hx).mono ?_); rintro e wx ⟨rfl, hx⟩; dsimp only) | (go_at_call 17; (with_reducible refine (KR2.out _ _ hx).mono ?_); rintro e wx ⟨rfl, hx⟩; dsimp only) | (go_at_call 18; (with_reducible refine (KB1.out _ _ hx).mono ?_); rintro e wx ⟨v5, rfl, A5, c5, L5, rfl, hr5, hx⟩; have hcv5 := HCX.out wx A5 c5 (hr5.src fun p hp => hx.own p (by simp [hp])); dsimp only) | (go_at_call 18; (with_reducible refine (KB2.out _ _ hx).mono ?_); rintro e wx ⟨v6, rfl, A6, c6, L6, rfl, hr6, hx⟩; have hcv6 := HCY.out wx A6 c6 (hr6.src fun p hp => hx.own p (by simp [hp])); have hcv5' := HCX.out wx A5 c5 (hr5.src fun p hp => hx.own p (by simp [hp])); dsimp only))
          refine hK.out _ _ ?_ (fun hHeld => ?_)
          · (try dsimp only) <;> (exact SX.out _ _ hx (by simp) (by simp))
          clear hK K
          try simp only [Act.put, List.setIfInBounds_toArray, List.set_cons_zero, List.set_cons_succ]
          refine wpAnyH_ready (rs := [11, 13]) (by kernel_rfl) (by simp) ?_
          refine AllReadyH.cons (o := ?_) ?_ (fun K hK => ?_) ?_
          rotate_left 1
          · (simp only [List.getElem?_toArray, List.getElem?_cons_succ, List.getElem?_cons_zero]; exact rfl)
          · go_simp
            refine hK.out _ _ ?_ (fun hHeld => ?_)
            · (try dsimp only) <;> (exact SX.out _ _ hx (by simp) (by simp))
            clear hK K
            try simp only [Act.put, List.setIfInBounds_toArray, List.set_cons_zero, List.set_cons_succ]
            refine wpAnyH_ready (rs := [13]) (by kernel_rfl) (by simp) ?_
            refine AllReadyH.cons (o := ?_) ?_ (fun K hK => ?_) ?_
            rotate_left 1
            · (simp only [List.getElem?_toArray, List.getElem?_cons_succ, List.getElem?_cons_zero]; exact rfl)
            · go_simp
              (first | (go_at_call 17; (with_reducible refine (KR1.out _ _ hx).mono ?_); rintro e wx ⟨rfl, hx⟩; dsimp only) | (go_at_call 17; (with_reducible refine (KR2.out _ _ hx).mono ?_); rintro e wx ⟨rfl, hx⟩; dsimp only) | (go_at_call 18; (with_reducible refine (KB1.out _ _ hx).mono ?_); rintro e wx ⟨v5, rfl, A5, c5, L5, rfl, hr5, hx⟩; have hcv5 := HCX.out wx A5 c5 (hr5.src fun p hp => hx.own p (by simp [hp])); dsimp only) | (go_at_call 18; (with_reducible refine (KB2.out _ _ hx).mono ?_); rintro e wx ⟨v6, rfl, A6, c6, L6, rfl, hr6, hx⟩; have hcv6 := HCY.out wx A6 c6 (hr6.src fun p hp => hx.own p (by simp [hp])); have hcv5' := HCX.out wx A5 c5 (hr5.src fun p hp => hx.own p (by simp [hp])); dsimp only))
              refine hK.out _ _ ?_ (fun hHeld => ?_)
              · (try dsimp only) <;> (exact SX.out _ _ hx (by simp) (by simp))
              clear hK K
              try simp only [Act.put, List.setIfInBounds_toArray, List.set_cons_zero, List.set_cons_succ]
              refine wpAnyH_ready (rs := [14]) (by kernel_rfl) (by simp) ?_
              refine AllReadyH.cons (o := ?_) ?_ (fun K hK => ?_) ?_
              rotate_left 1
              · (simp only [List.getElem?_toArray, List.getElem?_cons_succ, List.getElem?_cons_zero]; exact rfl)
              · go_simp
                refine hK.out _ _ ?_ (fun hHeld => ?_)
                · (try dsimp only) <;> (exact SX.out _ _ hx (by simp) (by simp))
                clear hK K
                try simp only [Act.put, List.setIfInBounds_toArray, List.set_cons_zero, List.set_cons_succ]
                refine wpAnyH_take (i := 15) (oi := ?_) (v := ?_) ?_ ?_ ?_ ?_ ?_ ?_ ?_ ?_
                rotate_left 2
                · (simp only [List.getElem?_toArray, List.getElem?_cons_succ, List.getElem?_cons_zero]; exact rfl)
                · kernel_rfl
                · kernel_rfl
                · kernel_rfl
                · exact fun _ _ _ h => h
                · first | (refine Or.inl ⟨by rfl, ?_⟩; intro w hSw; (try dsimp only at hSw); go_simp; try with_reducible rfl) | (refine Or.inr ⟨by rfl, ?_⟩; rfl)
                · assumption
                try simp only [Act.put, List.setIfInBounds_toArray, List.set_cons_zero, List.set_cons_succ]
                refine wpAnyH_take (i := 17) (oi := ?_) (v := ?_) ?_ ?_ ?_ ?_ ?_ ?_ ?_ ?_
                rotate_left 2
                · (simp only [List.getElem?_toArray, List.getElem?_cons_succ, List.getElem?_cons_zero]; exact rfl)
                · kernel_rfl
                · kernel_rfl
                · kernel_rfl
                · exact fun _ _ _ h => h
                · first | (refine Or.inl ⟨by rfl, ?_⟩; intro w hSw; (try dsimp only at hSw); go_simp; try with_reducible rfl) | (refine Or.inr ⟨by rfl, ?_⟩; rfl)
                · assumption
                try simp only [Act.put, List.setIfInBounds_toArray, List.set_cons_zero, List.set_cons_succ]
                refine wpAnyH_take (i := 18) (oi := ?_) (v := ?_) ?_ ?_ ?_ ?_ ?_ ?_ ?_ ?_
                rotate_left 2
                · (simp only [List.getElem?_toArray, List.getElem?_cons_succ, List.getElem?_cons_zero]; exact rfl)
                · kernel_rfl
                · kernel_rfl
                · kernel_rfl
                · exact fun _ _ _ h => h
                · first | (refine Or.inl ⟨by rfl, ?_⟩; intro w hSw; (try dsimp only at hSw); go_simp; try with_reducible rfl) | (refine Or.inr ⟨by rfl, ?_⟩; rfl)
                · assumption
                try simp only [Act.put, List.setIfInBounds_toArray, List.set_cons_zero, List.set_cons_succ]
                refine wpAnyH_take (i := 19) (oi := ?_) (v := ?_) ?_ ?_ ?_ ?_ ?_ ?_ ?_ ?_
                rotate_left 2
                · (simp only [List.getElem?_toArray, List.getElem?_cons_succ, List.getElem?_cons_zero]; exact rfl)
                · kernel_rfl
                · kernel_rfl
                · kernel_rfl
                · exact fun _ _ _ h => h
                · first | (refine Or.inl ⟨by rfl, ?_⟩; intro w hSw; (try dsimp only at hSw); go_simp; try with_reducible rfl) | (refine Or.inr ⟨by rfl, ?_⟩; rfl)
                · assumption
                try simp only [Act.put, List.setIfInBounds_toArray, List.set_cons_zero, List.set_cons_succ]
                refine wpAnyH_done (by kernel_rfl) ?_ _
                have HF : Hid (Below W.heap.size W _) := Lib.hid (hx.below (Le.refl _))
                go_wp2_with fail
                go_ret
                exact ⟨by first | rfl | simp, HF.out⟩
              exact AllReadyH.nil
            exact AllReadyH.nil
          refine AllReadyH.cons (o := ?_) ?_ (fun K hK => ?_) ?_
          rotate_left 1
          · (simp only [List.getElem?_toArray, List.getElem?_cons_succ, List.getElem?_cons_zero]; exact rfl)
          · go_simp
            (first | (go_at_call 17; (with_reducible refine (KR1.out _ _ hx).mono ?_); rintro e wx ⟨rfl, hx⟩; dsimp only) | (go_at_call 17; (with_reducible refine (KR2.out _ _ hx).mono ?_); rintro e wx ⟨rfl, hx⟩; dsimp only) | (go_at_call 18; (with_reducible refine (KB1.out _ _ hx).mono ?_); rintro e wx ⟨v5, rfl, A5, c5, L5, rfl, hr5, hx⟩; have hcv5 := HCX.out wx A5 c5 (hr5.src fun p hp => hx.own p (by simp [hp])); dsimp only) | (go_at_call 18; (with_reducible refine (KB2.out _ _ hx).mono ?_); rintro e wx ⟨v6, rfl, A6, c6, L6, rfl, hr6, hx⟩; have hcv6 := HCY.out wx A6 c6 (hr6.src fun p hp => hx.own p (by simp [hp])); have hcv5' := HCX.out wx A5 c5 (hr5.src fun p hp => hx.own p (by simp [hp])); dsimp only))
            refine hK.out _ _ ?_ (fun hHeld => ?_)
            · (try dsimp only) <;> (exact SX.out _ _ hx (by simp) (by simp))
            clear hK K
            try simp only [Act.put, List.setIfInBounds_toArray, List.set_cons_zero, List.set_cons_succ]
            refine wpAnyH_ready (rs := [11, 14]) (by kernel_rfl) (by simp) ?_
            refine AllReadyH.cons (o := ?_) ?_ (fun K hK => ?_) ?_
            rotate_left 1
            · (simp only [List.getElem?_toArray, List.getElem?_cons_succ, List.getElem?_cons_zero]; exact rfl)
            · go_simp
              refine hK.out _ _ ?_ (fun hHeld => ?_)
              · (try dsimp only) <;> (exact SX.out _ _ hx (by simp) (by simp))
              clear hK K
              try simp only [Act.put, List.setIfInBounds_toArray, List.set_cons_zero, List.set_cons_succ]
              refine wpAnyH_ready (rs := [14]) (by kernel_rfl) (by simp) ?_
              refine AllReadyH.cons (o := ?_) ?_ (fun K hK => ?_) ?_
              rotate_left 1
              · (simp only [List.getElem?_toArray, List.getElem?_cons_succ, List.getElem?_cons_zero]; exact rfl)
              · go_simp
                refine hK.out _ _ ?_ (fun hHeld => ?_)
                · (try dsimp only) <;> (exact SX.out _ _ hx (by simp) (by simp))
                clear hK K
                try simp only [Act.put, List.setIfInBounds_toArray, List.set_cons_zero, List.set_cons_succ]
                refine wpAnyH_take (i := 15) (oi := ?_) (v := ?_) ?_ ?_ ?_ ?_ ?_ ?_ ?_ ?_
                rotate_left 2
                · (simp only [List.getElem?_toArray, List.getElem?_cons_succ, List.getElem?_cons_zero]; exact rfl)
                · kernel_rfl
                · kernel_rfl
                · kernel_rfl
                · exact fun _ _ _ h => h
                · first | (refine Or.inl ⟨by rfl, ?_⟩; intro w hSw; (try dsimp only at hSw); go_simp; try with_reducible rfl) | (refine Or.inr ⟨by rfl, ?_⟩; rfl)
                · assumption
                try simp only [Act.put, List.setIfInBounds_toArray, List.set_cons_zero, List.set_cons_succ]
                refine wpAnyH_take (i := 17) (oi := ?_) (v := ?_) ?_ ?_ ?_ ?_ ?_ ?_ ?_ ?_
                rotate_left 2
                · (simp only [List.getElem?_toArray, List.getElem?_cons_succ, List.getElem?_cons_zero]; exact rfl)
                · kernel_rfl
                · kernel_rfl
                · kernel_rfl
                · exact fun _ _ _ h => h
                · first | (refine Or.inl ⟨by rfl, ?_⟩; intro w hSw; (try dsimp only at hSw); go_simp; try with_reducible rfl) | (refine Or.inr ⟨by rfl, ?_⟩; rfl)
                · assumption
                try simp only [Act.put, List.setIfInBounds_toArray, List.set_cons_zero, List.set_cons_succ]
                refine wpAnyH_take (i := 18) (oi := ?_) (v := ?_) ?_ ?_ ?_ ?_ ?_ ?_ ?_ ?_
                rotate_left 2
                · (simp only [List.getElem?_toArray, List.getElem?_cons_succ, List.getElem?_cons_zero]; exact rfl)
                · kernel_rfl
                · kernel_rfl
                · kernel_rfl
                · exact fun _ _ _ h => h
                · first | (refine Or.inl ⟨by rfl, ?_⟩; intro w hSw; (try dsimp only at hSw); go_simp; try with_reducible rfl) | (refine Or.inr ⟨by rfl, ?_⟩; rfl)
                · assumption
                try simp only [Act.put, List.setIfInBounds_toArray, List.set_cons_zero, List.set_cons_succ]
                refine wpAnyH_take (i := 19) (oi := ?_) (v := ?_) ?_ ?_ ?_ ?_ ?_ ?_ ?_ ?_
                rotate_left 2
                · (simp only [List.getElem?_toArray, List.getElem?_cons_succ, List.getElem?_cons_zero]; exact rfl)
                · kernel_rfl
                · kernel_rfl
                · kernel_rfl
                · exact fun _ _ _ h => h
                · first | (refine Or.inl ⟨by rfl, ?_⟩; intro w hSw; (try dsimp only at hSw); go_simp; try with_reducible rfl) | (refine Or.inr ⟨by rfl, ?_⟩; rfl)
                · assumption
                try simp only [Act.put, List.setIfInBounds_toArray, List.set_cons_zero, List.set_cons_succ]
                refine wpAnyH_done (by kernel_rfl) ?_ _
                have HF : Hid (Below W.heap.size W _) := Lib.hid (hx.below (Le.refl _))
                go_wp2_with fail
                go_ret
                exact ⟨by first | rfl | simp, HF.out⟩
              exact AllReadyH.nil
            refine AllReadyH.cons (o := ?_) ?_ (fun K hK => ?_) ?_
            rotate_left 1
            · (simp only [List.getElem?_toArray, List.getElem?_cons_succ, List.getElem?_cons_zero]; exact rfl)
            · go_simp
              refine hK.out _ _ ?_ (fun hHeld => ?_)
              · (try dsimp only) <;> (exact SX.out _ _ hx (by simp) (by simp))
              clear hK K
              try simp only [Act.put, List.setIfInBounds_toArray, List.set_cons_zero, List.set_cons_succ]
              refine wpAnyH_ready (rs := [11]) (by kernel_rfl) (by simp) ?_
              refine AllReadyH.cons (o := ?_) ?_ (fun K hK => ?_) ?_
              rotate_left 1
              · (simp only [List.getElem?_toArray, List.getElem?_cons_succ, List.getElem?_cons_zero]; exact rfl)
              · go_simp
                refine hK.out _ _ ?_ (fun hHeld => ?_)
                · (try dsimp only) <;> (exact SX.out _ _ hx (by simp) (by simp))
                clear hK K
                try simp only [Act.put, List.setIfInBounds_toArray, List.set_cons_zero, List.set_cons_succ]
                refine wpAnyH_take (i := 15) (oi := ?_) (v := ?_) ?_ ?_ ?_ ?_ ?_ ?_ ?_ ?_
                rotate_left 2
                · (simp only [List.getElem?_toArray, List.getElem?_cons_succ, List.getElem?_cons_zero]; exact rfl)
                · kernel_rfl
                · kernel_rfl
                · kernel_rfl
                · exact fun _ _ _ h => h
                · first | (refine Or.inl ⟨by rfl, ?_⟩; intro w hSw; (try dsimp only at hSw); go_simp; try with_reducible rfl) | (refine Or.inr ⟨by rfl, ?_⟩; rfl)
                · assumption
                try simp only [Act.put, List.setIfInBounds_toArray, List.set_cons_zero, List.set_cons_succ]
                refine wpAnyH_take (i := 17) (oi := ?_) (v := ?_) ?_ ?_ ?_ ?_ ?_ ?_ ?_ ?_
                rotate_left 2
                · (simp only [List.getElem?_toArray, List.getElem?_cons_succ, List.getElem?_cons_zero]; exact rfl)
                · kernel_rfl
                · kernel_rfl
                · kernel_rfl
                · exact fun _ _ _ h => h
                · first | (refine Or.inl ⟨by rfl, ?_⟩; intro w hSw; (try dsimp only at hSw); go_simp; try with_reducible rfl) | (refine Or.inr ⟨by rfl, ?_⟩; rfl)
                · assumption
                try simp only [Act.put, List.setIfInBounds_toArray, List.set_cons_zero, List.set_cons_succ]
                refine wpAnyH_take (i := 18) (oi := ?_) (v := ?_) ?_ ?_ ?_ ?_ ?_ ?_ ?_ ?_
                rotate_left 2
                · (simp only [List.getElem?_toArray, List.getElem?_cons_succ, List.getElem?_cons_zero]; exact rfl)
                · kernel_rfl
                · kernel_rfl
                · kernel_rfl
                · exact fun _ _ _ h => h
                · first | (refine Or.inl ⟨by rfl, ?_⟩; intro w hSw; (try dsimp only at hSw); go_simp; try with_reducible rfl) | (refine Or.inr ⟨by rfl, ?_⟩; rfl)
                · assumption
                try simp only [Act.put, List.setIfInBounds_toArray, List.set_cons_zero, List.set_cons_succ]
                refine wpAnyH_take (i := 19) (oi := ?_) (v := ?_) ?_ ?_ ?_ ?_ ?_ ?_ ?_ ?_
                rotate_left 2
                · (simp only [List.getElem?_toArray, List.getElem?_cons_succ, List.getElem?_cons_zero]; exact rfl)
                · kernel_rfl
                · kernel_rfl
                · kernel_rfl
                · exact fun _ _ _ h => h
                · first | (refine Or.inl ⟨by rfl, ?_⟩; intro w hSw; (try dsimp only at hSw); go_simp; try with_reducible rfl) | (refine Or.inr ⟨by rfl, ?_⟩; rfl)
                · assumption
                try simp only [Act.put, List.setIfInBounds_toArray, List.set_cons_zero, List.set_cons_succ]
                refine wpAnyH_done (by kernel_rfl) ?_ _
                have HF : Hid (Below W.heap.size W _) := Lib.hid (hx.below (Le.refl _))
                go_wp2_with fail
                go_ret
                exact ⟨by first | rfl | simp, HF.out⟩
              exact AllReadyH.nil
            exact AllReadyH.nil
          exact AllReadyH.nil
        exact AllReadyH.nil
      exact AllReadyH.nil
    exact AllReadyH.nil
  | false =>
    have hs1 : (sX.toList == sY.toList) = false := str_ne _ _ (fun e => of_decide_eq_false hiff (by rw [← hsX, ← hsY] at e; have h := congrArg sB e; rwa [sB_pA, sB_pA] at h))
    clear hiff hsX hsY
    go_wp2_with fail
    refine wp_region_held_drew (S := fun v => v.rangeAt ba 0 m.cells.toList ∧ v.rangeAt (ba + 1) 0 m2.cells.toList) (by kernel_rfl) (SX.out _ _ hx (by simp) (by simp)) (fun hHeld => ?_)
    refine wpAnyH_take (i := 0) (oi := ?_) (v := ?_) ?_ ?_ ?_ ?_ ?_ ?_ ?_ ?_
    rotate_left 2
    · (simp only [List.getElem?_toArray, List.getElem?_cons_succ, List.getElem?_cons_zero]; exact rfl)
    · kernel_rfl
    · kernel_rfl
    · kernel_rfl
    · exact fun _ _ _ h => h
    · first | (first | ((refine yieldsIf_load_mid ?_ 29 (.tmp 2) ?_ ba 0 ?_ m.cells.toList _ ?_ HUL.out ?_ HMA.out) <;> first | rfl | exact fun w h => h.1) | ((refine yieldsIf_load_mid ?_ 29 (.tmp 3) ?_ (ba + 1) 0 ?_ m2.cells.toList _ ?_ HUL.out ?_ HMB.out) <;> first | rfl | exact fun w h => h.2)) | (refine Or.inr ⟨by rfl, ?_⟩; rfl)
    · assumption
    try simp only [Act.put, List.setIfInBounds_toArray, List.set_cons_zero, List.set_cons_succ]
    refine wpAnyH_ready (rs := [1]) (by kernel_rfl) (by simp) ?_
    refine AllReadyH.cons (o := ?_) ?_ (fun K hK => ?_) ?_
    rotate_left 1
    · (simp only [List.getElem?_toArray, List.getElem?_cons_succ, List.getElem?_cons_zero]; exact rfl)
    · go_simp
      (first | (go_at_call 17; (with_reducible refine (KR1.out _ _ hx).mono ?_); rintro e wx ⟨rfl, hx⟩; dsimp only) | (go_at_call 17; (with_reducible refine (KR2.out _ _ hx).mono ?_); rintro e wx ⟨rfl, hx⟩; dsimp only) | (go_at_call 18; (with_reducible refine (KB1.out _ _ hx).mono ?_); rintro e wx ⟨v5, rfl, A5, c5, L5, rfl, hr5, hx⟩; have hcv5 := HCX.out wx A5 c5 (hr5.src fun p hp => hx.own p (by simp [hp])); dsimp only) | (go_at_call 18; (with_reducible refine (KB2.out _ _ hx).mono ?_); rintro e wx ⟨v6, rfl, A6, c6, L6, rfl, hr6, hx⟩; have hcv6 := HCY.out wx A6 c6 (hr6.src fun p hp => hx.own p (by simp [hp])); have hcv5' := HCX.out wx A5 c5 (hr5.src fun p hp => hx.own p (by simp [hp])); dsimp only))
      refine hK.out _ _ ?_ (fun hHeld => ?_)
      · (try dsimp only) <;> (exact SX.out _ _ hx (by simp) (by simp))
      clear hK K
      try simp only [Act.put, List.setIfInBounds_toArray, List.set_cons_zero, List.set_cons_succ]
      refine wpAnyH_take (i := 2) (oi := ?_) (v := ?_) ?_ ?_ ?_ ?_ ?_ ?_ ?_ ?_
      rotate_left 2
      · (simp only [List.getElem?_toArray, List.getElem?_cons_succ, List.getElem?_cons_zero]; exact rfl)
      · kernel_rfl
      · kernel_rfl
      · kernel_rfl
      · exact fun _ _ _ h => h
      · first | (refine Or.inl ⟨by rfl, ?_⟩; intro w hSw; (try dsimp only at hSw); go_simp; try with_reducible rfl) | (refine Or.inr ⟨by rfl, ?_⟩; rfl)
      · assumption
      try simp only [Act.put, List.setIfInBounds_toArray, List.set_cons_zero, List.set_cons_succ]
      refine wpAnyH_take (i := 3) (oi := ?_) (v := ?_) ?_ ?_ ?_ ?_ ?_ ?_ ?_ ?_
      rotate_left 2
      · (simp only [List.getElem?_toArray, List.getElem?_cons_succ, List.getElem?_cons_zero]; exact rfl)
      · kernel_rfl
      · kernel_rfl
      · kernel_rfl
      · exact fun _ _ _ h => h
      · first | (refine Or.inl ⟨by rfl, ?_⟩; intro w hSw; (try dsimp only at hSw); go_simp; try with_reducible rfl) | (refine Or.inr ⟨by rfl, ?_⟩; rfl)
      · assumption
      try simp only [Act.put, List.setIfInBounds_toArray, List.set_cons_zero, List.set_cons_succ]
      refine wpAnyH_take (i := 4) (oi := ?_) (v := ?_) ?_ ?_ ?_ ?_ ?_ ?_ ?_ ?_
      rotate_left 2
      · (simp only [List.getElem?_toArray, List.getElem?_cons_succ, List.getElem?_cons_zero]; exact rfl)
      · kernel_rfl
      · kernel_rfl
      · kernel_rfl
      · exact fun _ _ _ h => h
      · first | (first | ((refine yieldsIf_load_mid ?_ 29 (.tmp 2) ?_ ba 0 ?_ m.cells.toList _ ?_ HUL.out ?_ HMA.out) <;> first | rfl | exact fun w h => h.1) | ((refine yieldsIf_load_mid ?_ 29 (.tmp 3) ?_ (ba + 1) 0 ?_ m2.cells.toList _ ?_ HUL.out ?_ HMB.out) <;> first | rfl | exact fun w h => h.2)) | (refine Or.inr ⟨by rfl, ?_⟩; rfl)
      · assumption
      try simp only [Act.put, List.setIfInBounds_toArray, List.set_cons_zero, List.set_cons_succ]
      refine wpAnyH_ready (rs := [5]) (by kernel_rfl) (by simp) ?_
      refine AllReadyH.cons (o := ?_) ?_ (fun K hK => ?_) ?_
      rotate_left 1
      · (simp only [List.getElem?_toArray, List.getElem?_cons_succ, List.getElem?_cons_zero]; exact rfl)
      · go_simp
        (first | (go_at_call 17; (with_reducible refine (KR1.out _ _ hx).mono ?_); rintro e wx ⟨rfl, hx⟩; dsimp only) | (go_at_call 17; (with_reducible refine (KR2.out _ _ hx).mono ?_); rintro e wx ⟨rfl, hx⟩; dsimp only) | (go_at_call 18; (with_reducible refine (KB1.out _ _ hx).mono ?_); rintro e wx ⟨v5, rfl, A5, c5, L5, rfl, hr5, hx⟩; have hcv5 := HCX.out wx A5 c5 (hr5.src fun p hp => hx.own p (by simp [hp])); dsimp only) | (go_at_call 18; (with_reducible refine (KB2.out _ _ hx).mono ?_); rintro e wx ⟨v6, rfl, A6, c6, L6, rfl, hr6, hx⟩; have hcv6 := HCY.out wx A6 c6 (hr6.src fun p hp => hx.own p (by simp [hp])); have hcv5' := HCX.out wx A5 c5 (hr5.src fun p hp => hx.own p (by simp [hp])); dsimp only))
        refine hK.out _ _ ?_ (fun hHeld => ?_)
        · (try dsimp only) <;> (exact SX.out _ _ hx (by simp) (by simp))
        clear hK K
        try simp only [Act.put, List.setIfInBounds_toArray, List.set_cons_zero, List.set_cons_succ]
        refine wpAnyH_take (i := 6) (oi := ?_) (v := ?_) ?_ ?_ ?_ ?_ ?_ ?_ ?_ ?_
        rotate_left 2
        · (simp only [List.getElem?_toArray, List.getElem?_cons_succ, List.getElem?_cons_zero]; exact rfl)
        · kernel_rfl
        · kernel_rfl
        · kernel_rfl
        · exact fun _ _ _ h => h
        · first | (refine Or.inl ⟨by rfl, ?_⟩; intro w hSw; (try dsimp only at hSw); go_simp; try with_reducible rfl) | (refine Or.inr ⟨by rfl, ?_⟩; rfl)
        · assumption
        try simp only [Act.put, List.setIfInBounds_toArray, List.set_cons_zero, List.set_cons_succ]
        refine wpAnyH_take (i := 7) (oi := ?_) (v := ?_) ?_ ?_ ?_ ?_ ?_ ?_ ?_ ?_
        rotate_left 2
        · (simp only [List.getElem?_toArray, List.getElem?_cons_succ, List.getElem?_cons_zero]; exact rfl)
        · kernel_rfl
        · kernel_rfl
        · kernel_rfl
        · exact fun _ _ _ h => h
        · first | (refine Or.inl ⟨by rfl, ?_⟩; intro w hSw; (try dsimp only at hSw); go_simp; try with_reducible rfl) | (refine Or.inr ⟨by rfl, ?_⟩; rfl)
        · assumption
        try simp only [Act.put, List.setIfInBounds_toArray, List.set_cons_zero, List.set_cons_succ]
        refine wpAnyH_take (i := 8) (oi := ?_) (v := ?_) ?_ ?_ ?_ ?_ ?_ ?_ ?_ ?_
        rotate_left 2
        · (simp only [List.getElem?_toArray, List.getElem?_cons_succ, List.getElem?_cons_zero]; exact rfl)
        · kernel_rfl
        · kernel_rfl
        · kernel_rfl
        · exact fun _ _ _ h => h
        · first | (refine Or.inl ⟨by rfl, ?_⟩; intro w hSw; (try dsimp only at hSw); go_simp; try with_reducible rfl) | (refine Or.inr ⟨by rfl, ?_⟩; rfl)
        · assumption
        try simp only [Act.put, List.setIfInBounds_toArray, List.set_cons_zero, List.set_cons_succ]
        refine wpAnyH_take (i := 9) (oi := ?_) (v := ?_) ?_ ?_ ?_ ?_ ?_ ?_ ?_ ?_
        rotate_left 2
        · (simp only [List.getElem?_toArray, List.getElem?_cons_succ, List.getElem?_cons_zero]; exact rfl)
        · kernel_rfl
        · kernel_rfl
        · kernel_rfl
        · exact fun _ _ _ h => h
        · first | (first | ((refine yieldsIf_load_mid ?_ 29 (.tmp 2) ?_ ba 0 ?_ m.cells.toList _ ?_ HUL.out ?_ HMA.out) <;> first | rfl | exact fun w h => h.1) | ((refine yieldsIf_load_mid ?_ 29 (.tmp 3) ?_ (ba + 1) 0 ?_ m2.cells.toList _ ?_ HUL.out ?_ HMB.out) <;> first | rfl | exact fun w h => h.2)) | (refine Or.inr ⟨by rfl, ?_⟩; rfl)
        · assumption
        try simp only [Act.put, List.setIfInBounds_toArray, List.set_cons_zero, List.set_cons_succ]
        refine wpAnyH_take (i := 12) (oi := ?_) (v := ?_) ?_ ?_ ?_ ?_ ?_ ?_ ?_ ?_
        rotate_left 2
        · (simp only [List.getElem?_toArray, List.getElem?_cons_succ, List.getElem?_cons_zero]; exact rfl)
        · kernel_rfl
        · kernel_rfl
        · kernel_rfl
        · exact fun _ _ _ h => h
        · first | (first | ((refine yieldsIf_load_mid ?_ 29 (.tmp 2) ?_ ba 0 ?_ m.cells.toList _ ?_ HUL.out ?_ HMA.out) <;> first | rfl | exact fun w h => h.1) | ((refine yieldsIf_load_mid ?_ 29 (.tmp 3) ?_ (ba + 1) 0 ?_ m2.cells.toList _ ?_ HUL.out ?_ HMB.out) <;> first | rfl | exact fun w h => h.2)) | (refine Or.inr ⟨by rfl, ?_⟩; rfl)
        · assumption
        try simp only [Act.put, List.setIfInBounds_toArray, List.set_cons_zero, List.set_cons_succ]
        refine wpAnyH_take (i := 16) (oi := ?_) (v := ?_) ?_ ?_ ?_ ?_ ?_ ?_ ?_ ?_
        rotate_left 2
        · (simp only [List.getElem?_toArray, List.getElem?_cons_succ, List.getElem?_cons_zero]; exact rfl)
        · kernel_rfl
        · kernel_rfl
        · kernel_rfl
        · exact fun _ _ _ h => h
        · first | (refine Or.inl ⟨by rfl, ?_⟩; intro w hSw; (try dsimp only at hSw); go_simp; try with_reducible rfl) | (refine Or.inr ⟨by rfl, ?_⟩; rfl)
        · assumption
        try simp only [Act.put, List.setIfInBounds_toArray, List.set_cons_zero, List.set_cons_succ]
        refine wpAnyH_ready (rs := [10]) (by kernel_rfl) (by simp) ?_
        refine AllReadyH.cons (o := ?_) ?_ (fun K hK => ?_) ?_
        rotate_left 1
        · (simp only [List.getElem?_toArray, List.getElem?_cons_succ, List.getElem?_cons_zero]; exact rfl)
        · go_simp
          (first | (go_at_call 17; (with_reducible refine (KR1.out _ _ hx).mono ?_); rintro e wx ⟨rfl, hx⟩; dsimp only) | (go_at_call 17; (with_reducible refine (KR2.out _ _ hx).mono ?_); rintro e wx ⟨rfl, hx⟩; dsimp only) | (go_at_call 18; (with_reducible refine (KB1.out _ _ hx).mono ?_); rintro e wx ⟨v5, rfl, A5, c5, L5, rfl, hr5, hx⟩; have hcv5 := HCX.out wx A5 c5 (hr5.src fun p hp => hx.own p (by simp [hp])); dsimp only) | (go_at_call 18; (with_reducible refine (KB2.out _ _ hx).mono ?_); rintro e wx ⟨v6, rfl, A6, c6, L6, rfl, hr6, hx⟩; have hcv6 := HCY.out wx A6 c6 (hr6.src fun p hp => hx.own p (by simp [hp])); have hcv5' := HCX.out wx A5 c5 (hr5.src fun p hp => hx.own p (by simp [hp])); dsimp only))
          refine hK.out _ _ ?_ (fun hHeld => ?_)
          · (try dsimp only) <;> (exact SX.out _ _ hx (by simp) (by simp))
          clear hK K
          try simp only [Act.put, List.setIfInBounds_toArray, List.set_cons_zero, List.set_cons_succ]
          refine wpAnyH_ready (rs := [11, 13]) (by kernel_rfl) (by simp) ?_
          refine AllReadyH.cons (o := ?_) ?_ (fun K hK => ?_) ?_
          rotate_left 1
          · (simp only [List.getElem?_toArray, List.getElem?_cons_succ, List.getElem?_cons_zero]; exact rfl)
          · go_simp
            refine hK.out _ _ ?_ (fun hHeld => ?_)
            · (try dsimp only) <;> (exact SX.out _ _ hx (by simp) (by simp))
            clear hK K
            try simp only [Act.put, List.setIfInBounds_toArray, List.set_cons_zero, List.set_cons_succ]
            refine wpAnyH_ready (rs := [13]) (by kernel_rfl) (by simp) ?_
            refine AllReadyH.cons (o := ?_) ?_ (fun K hK => ?_) ?_
            rotate_left 1
            · (simp only [List.getElem?_toArray, List.getElem?_cons_succ, List.getElem?_cons_zero]; exact rfl)
            · go_simp
              (first | (go_at_call 17; (with_reducible refine (KR1.out _ _ hx).mono ?_); rintro e wx ⟨rfl, hx⟩; dsimp only) | (go_at_call 17; (with_reducible refine (KR2.out _ _ hx).mono ?_); rintro e wx ⟨rfl, hx⟩; dsimp only) | (go_at_call 18; (with_reducible refine (KB1.out _ _ hx).mono ?_); rintro e wx ⟨v5, rfl, A5, c5, L5, rfl, hr5, hx⟩; have hcv5 := HCX.out wx A5 c5 (hr5.src fun p hp => hx.own p (by simp [hp])); dsimp only) | (go_at_call 18; (with_reducible refine (KB2.out _ _ hx).mono ?_); rintro e wx ⟨v6, rfl, A6, c6, L6, rfl, hr6, hx⟩; have hcv6 := HCY.out wx A6 c6 (hr6.src fun p hp => hx.own p (by simp [hp])); have hcv5' := HCX.out wx A5 c5 (hr5.src fun p hp => hx.own p (by simp [hp])); dsimp only))
              refine hK.out _ _ ?_ (fun hHeld => ?_)
              · (try dsimp only) <;> (exact SX.out _ _ hx (by simp) (by simp))
              clear hK K
              try simp only [Act.put, List.setIfInBounds_toArray, List.set_cons_zero, List.set_cons_succ]
              refine wpAnyH_ready (rs := [14]) (by kernel_rfl) (by simp) ?_
              refine AllReadyH.cons (o := ?_) ?_ (fun K hK => ?_) ?_
              rotate_left 1
              · (simp only [List.getElem?_toArray, List.getElem?_cons_succ, List.getElem?_cons_zero]; exact rfl)
              · go_simp
                refine hK.out _ _ ?_ (fun hHeld => ?_)
                · (try dsimp only) <;> (exact SX.out _ _ hx (by simp) (by simp))
                clear hK K
                try simp only [Act.put, List.setIfInBounds_toArray, List.set_cons_zero, List.set_cons_succ]
                refine wpAnyH_take (i := 15) (oi := ?_) (v := ?_) ?_ ?_ ?_ ?_ ?_ ?_ ?_ ?_
                rotate_left 2
                · (simp only [List.getElem?_toArray, List.getElem?_cons_succ, List.getElem?_cons_zero]; exact rfl)
                · kernel_rfl
                · kernel_rfl
                · kernel_rfl
                · exact fun _ _ _ h => h
                · first | (refine Or.inl ⟨by rfl, ?_⟩; intro w hSw; (try dsimp only at hSw); go_simp; try with_reducible rfl) | (refine Or.inr ⟨by rfl, ?_⟩; rfl)
                · assumption
                try simp only [Act.put, List.setIfInBounds_toArray, List.set_cons_zero, List.set_cons_succ]
                refine wpAnyH_take (i := 17) (oi := ?_) (v := ?_) ?_ ?_ ?_ ?_ ?_ ?_ ?_ ?_
                rotate_left 2
                · (simp only [List.getElem?_toArray, List.getElem?_cons_succ, List.getElem?_cons_zero]; exact rfl)
                · kernel_rfl
                · kernel_rfl
                · kernel_rfl
                · exact fun _ _ _ h => h
                · first | (refine Or.inl ⟨by rfl, ?_⟩; intro w hSw; (try dsimp only at hSw); go_simp; try with_reducible rfl) | (refine Or.inr ⟨by rfl, ?_⟩; rfl)
                · assumption
                try simp only [Act.put, List.setIfInBounds_toArray, List.set_cons_zero, List.set_cons_succ]
                refine wpAnyH_take (i := 18) (oi := ?_) (v := ?_) ?_ ?_ ?_ ?_ ?_ ?_ ?_ ?_
                rotate_left 2
                · (simp only [List.getElem?_toArray, List.getElem?_cons_succ, List.getElem?_cons_zero]; exact rfl)
                · kernel_rfl
                · kernel_rfl
                · kernel_rfl
                · exact fun _ _ _ h => h
                · first | (refine Or.inl ⟨by rfl, ?_⟩; intro w hSw; (try dsimp only at hSw); go_simp; try with_reducible rfl) | (refine Or.inr ⟨by rfl, ?_⟩; rfl)
                · assumption
                try simp only [Act.put, List.setIfInBounds_toArray, List.set_cons_zero, List.set_cons_succ]
                refine wpAnyH_take (i := 19) (oi := ?_) (v := ?_) ?_ ?_ ?_ ?_ ?_ ?_ ?_ ?_
                rotate_left 2
                · (simp only [List.getElem?_toArray, List.getElem?_cons_succ, List.getElem?_cons_zero]; exact rfl)
                · kernel_rfl
                · kernel_rfl
                · kernel_rfl
                · exact fun _ _ _ h => h
                · first | (refine Or.inl ⟨by rfl, ?_⟩; intro w hSw; (try dsimp only at hSw); go_simp; try with_reducible rfl) | (refine Or.inr ⟨by rfl, ?_⟩; rfl)
                · assumption
                try simp only [Act.put, List.setIfInBounds_toArray, List.set_cons_zero, List.set_cons_succ]
                refine wpAnyH_done (by kernel_rfl) ?_ _
                have HF : Hid (Below W.heap.size W _) := Lib.hid (hx.below (Le.refl _))
                go_wp2_with fail
                go_ret
                exact ⟨by first | rfl | simp, HF.out⟩
              exact AllReadyH.nil
            exact AllReadyH.nil
          refine AllReadyH.cons (o := ?_) ?_ (fun K hK => ?_) ?_
          rotate_left 1
          · (simp only [List.getElem?_toArray, List.getElem?_cons_succ, List.getElem?_cons_zero]; exact rfl)
          · go_simp
            (first | (go_at_call 17; (with_reducible refine (KR1.out _ _ hx).mono ?_); rintro e wx ⟨rfl, hx⟩; dsimp only) | (go_at_call 17; (with_reducible refine (KR2.out _ _ hx).mono ?_); rintro e wx ⟨rfl, hx⟩; dsimp only) | (go_at_call 18; (with_reducible refine (KB1.out _ _ hx).mono ?_); rintro e wx ⟨v5, rfl, A5, c5, L5, rfl, hr5, hx⟩; have hcv5 := HCX.out wx A5 c5 (hr5.src fun p hp => hx.own p (by simp [hp])); dsimp only) | (go_at_call 18; (with_reducible refine (KB2.out _ _ hx).mono ?_); rintro e wx ⟨v6, rfl, A6, c6, L6, rfl, hr6, hx⟩; have hcv6 := HCY.out wx A6 c6 (hr6.src fun p hp => hx.own p (by simp [hp])); have hcv5' := HCX.out wx A5 c5 (hr5.src fun p hp => hx.own p (by simp [hp])); dsimp only))
            refine hK.out _ _ ?_ (fun hHeld => ?_)
            · (try dsimp only) <;> (exact SX.out _ _ hx (by simp) (by simp))
            clear hK K
            try simp only [Act.put, List.setIfInBounds_toArray, List.set_cons_zero, List.set_cons_succ]
            refine wpAnyH_ready (rs := [11, 14]) (by kernel_rfl) (by simp) ?_
            refine AllReadyH.cons (o := ?_) ?_ (fun K hK => ?_) ?_
            rotate_left 1
            · (simp only [List.getElem?_toArray, List.getElem?_cons_succ, List.getElem?_cons_zero]; exact rfl)
            · go_simp
              refine hK.out _ _ ?_ (fun hHeld => ?_)
              · (try dsimp only) <;> (exact SX.out _ _ hx (by simp) (by simp))
              clear hK K
              try simp only [Act.put, List.setIfInBounds_toArray, List.set_cons_zero, List.set_cons_succ]
              refine wpAnyH_ready (rs := [14]) (by kernel_rfl) (by simp) ?_
              refine AllReadyH.cons (o := ?_) ?_ (fun K hK => ?_) ?_
              rotate_left 1
              · (simp only [List.getElem?_toArray, List.getElem?_cons_succ, List.getElem?_cons_zero]; exact rfl)
              · go_simp
                refine hK.out _ _ ?_ (fun hHeld => ?_)
                · (try dsimp only) <;> (exact SX.out _ _ hx (by simp) (by simp))
                clear hK K
                try simp only [Act.put, List.setIfInBounds_toArray, List.set_cons_zero, List.set_cons_succ]
                refine wpAnyH_take (i := 15) (oi := ?_) (v := ?_) ?_ ?_ ?_ ?_ ?_ ?_ ?_ ?_
                rotate_left 2
                · (simp only [List.getElem?_toArray, List.getElem?_cons_succ, List.getElem?_cons_zero]; exact rfl)
                · kernel_rfl
                · kernel_rfl
                · kernel_rfl
                · exact fun _ _ _ h => h
                · first | (refine Or.inl ⟨by rfl, ?_⟩; intro w hSw; (try dsimp only at hSw); go_simp; try with_reducible rfl) | (refine Or.inr ⟨by rfl, ?_⟩; rfl)
                · assumption
                try simp only [Act.put, List.setIfInBounds_toArray, List.set_cons_zero, List.set_cons_succ]
                refine wpAnyH_take (i := 17) (oi := ?_) (v := ?_) ?_ ?_ ?_ ?_ ?_ ?_ ?_ ?_
                rotate_left 2
                · (simp only [List.getElem?_toArray, List.getElem?_cons_succ, List.getElem?_cons_zero]; exact rfl)
                · kernel_rfl
                · kernel_rfl
                · kernel_rfl
                · exact fun _ _ _ h => h
                · first | (refine Or.inl ⟨by rfl, ?_⟩; intro w hSw; (try dsimp only at hSw); go_simp; try with_reducible rfl) | (refine Or.inr ⟨by rfl, ?_⟩; rfl)
                · assumption
                try simp only [Act.put, List.setIfInBounds_toArray, List.set_cons_zero, List.set_cons_succ]
                refine wpAnyH_take (i := 18) (oi := ?_) (v := ?_) ?_ ?_ ?_ ?_ ?_ ?_ ?_ ?_
                rotate_left 2
                · (simp only [List.getElem?_toArray, List.getElem?_cons_succ, List.getElem?_cons_zero]; exact rfl)
                · kernel_rfl
                · kernel_rfl
                · kernel_rfl
                · exact fun _ _ _ h => h
                · first | (refine Or.inl ⟨by rfl, ?_⟩; intro w hSw; (try dsimp only at hSw); go_simp; try with_reducible rfl) | (refine Or.inr ⟨by rfl, ?_⟩; rfl)
                · assumption
                try simp only [Act.put, List.setIfInBounds_toArray, List.set_cons_zero, List.set_cons_succ]
                refine wpAnyH_take (i := 19) (oi := ?_) (v := ?_) ?_ ?_ ?_ ?_ ?_ ?_ ?_ ?_
                rotate_left 2
                · (simp only [List.getElem?_toArray, List.getElem?_cons_succ, List.getElem?_cons_zero]; exact rfl)
                · kernel_rfl
                · kernel_rfl
                · kernel_rfl
                · exact fun _ _ _ h => h
                · first | (refine Or.inl ⟨by rfl, ?_⟩; intro w hSw; (try dsimp only at hSw); go_simp; try with_reducible rfl) | (refine Or.inr ⟨by rfl, ?_⟩; rfl)
                · assumption
                try simp only [Act.put, List.setIfInBounds_toArray, List.set_cons_zero, List.set_cons_succ]
                refine wpAnyH_done (by kernel_rfl) ?_ _
                have HF : Hid (Below W.heap.size W _) := Lib.hid (hx.below (Le.refl _))
                go_wp2_with fail
                go_ret
                exact ⟨by first | rfl | simp, HF.out⟩
              exact AllReadyH.nil
            refine AllReadyH.cons (o := ?_) ?_ (fun K hK => ?_) ?_
            rotate_left 1
            · (simp only [List.getElem?_toArray, List.getElem?_cons_succ, List.getElem?_cons_zero]; exact rfl)
            · go_simp
              refine hK.out _ _ ?_ (fun hHeld => ?_)
              · (try dsimp only) <;> (exact SX.out _ _ hx (by simp) (by simp))
              clear hK K
              try simp only [Act.put, List.setIfInBounds_toArray, List.set_cons_zero, List.set_cons_succ]
              refine wpAnyH_ready (rs := [11]) (by kernel_rfl) (by simp) ?_
              refine AllReadyH.cons (o := ?_) ?_ (fun K hK => ?_) ?_
              rotate_left 1
              · (simp only [List.getElem?_toArray, List.getElem?_cons_succ, List.getElem?_cons_zero]; exact rfl)
              · go_simp
                refine hK.out _ _ ?_ (fun hHeld => ?_)
                · (try dsimp only) <;> (exact SX.out _ _ hx (by simp) (by simp))
                clear hK K
                try simp only [Act.put, List.setIfInBounds_toArray, List.set_cons_zero, List.set_cons_succ]
                refine wpAnyH_take (i := 15) (oi := ?_) (v := ?_) ?_ ?_ ?_ ?_ ?_ ?_ ?_ ?_
                rotate_left 2
                · (simp only [List.getElem?_toArray, List.getElem?_cons_succ, List.getElem?_cons_zero]; exact rfl)
                · kernel_rfl
                · kernel_rfl
                · kernel_rfl
                · exact fun _ _ _ h => h
                · first | (refine Or.inl ⟨by rfl, ?_⟩; intro w hSw; (try dsimp only at hSw); go_simp; try with_reducible rfl) | (refine Or.inr ⟨by rfl, ?_⟩; rfl)
                · assumption
                try simp only [Act.put, List.setIfInBounds_toArray, List.set_cons_zero, List.set_cons_succ]
                refine wpAnyH_take (i := 17) (oi := ?_) (v := ?_) ?_ ?_ ?_ ?_ ?_ ?_ ?_ ?_
                rotate_left 2
                · (simp only [List.getElem?_toArray, List.getElem?_cons_succ, List.getElem?_cons_zero]; exact rfl)
                · kernel_rfl
                · kernel_rfl
                · kernel_rfl
                · exact fun _ _ _ h => h
                · first | (refine Or.inl ⟨by rfl, ?_⟩; intro w hSw; (try dsimp only at hSw); go_simp; try with_reducible rfl) | (refine Or.inr ⟨by rfl, ?_⟩; rfl)
                · assumption
                try simp only [Act.put, List.setIfInBounds_toArray, List.set_cons_zero, List.set_cons_succ]
                refine wpAnyH_take (i := 18) (oi := ?_) (v := ?_) ?_ ?_ ?_ ?_ ?_ ?_ ?_ ?_
                rotate_left 2
                · (simp only [List.getElem?_toArray, List.getElem?_cons_succ, List.getElem?_cons_zero]; exact rfl)
                · kernel_rfl
                · kernel_rfl
                · kernel_rfl
                · exact fun _ _ _ h => h
                · first | (refine Or.inl ⟨by rfl, ?_⟩; intro w hSw; (try dsimp only at hSw); go_simp; try with_reducible rfl) | (refine Or.inr ⟨by rfl, ?_⟩; rfl)
                · assumption
                try simp only [Act.put, List.setIfInBounds_toArray, List.set_cons_zero, List.set_cons_succ]
                refine wpAnyH_take (i := 19) (oi := ?_) (v := ?_) ?_ ?_ ?_ ?_ ?_ ?_ ?_ ?_
                rotate_left 2
                · (simp only [List.getElem?_toArray, List.getElem?_cons_succ, List.getElem?_cons_zero]; exact rfl)
                · kernel_rfl
                · kernel_rfl
                · kernel_rfl
                · exact fun _ _ _ h => h
                · first | (refine Or.inl ⟨by rfl, ?_⟩; intro w hSw; (try dsimp only at hSw); go_simp; try with_reducible rfl) | (refine Or.inr ⟨by rfl, ?_⟩; rfl)
                · assumption
                try simp only [Act.put, List.setIfInBounds_toArray, List.set_cons_zero, List.set_cons_succ]
                refine wpAnyH_done (by kernel_rfl) ?_ _
                have HF : Hid (Below W.heap.size W _) := Lib.hid (hx.below (Le.refl _))
                go_wp2_with fail
                go_ret
                exact ⟨by first | rfl | simp, HF.out⟩
              exact AllReadyH.nil
            exact AllReadyH.nil
          exact AllReadyH.nil
        exact AllReadyH.nil
      exact AllReadyH.nil
    exact AllReadyH.nil
end Go.Proofs.YtfbffmckmchbbaaDoor
