/- ManifestTells: the walk of the law. -/
import Derived.Test.YtfbffmckmchbbaaDoorMlX
import Derived.Test.YtfbffmckmchbbaaDoorTxD
import Derived.Test.YtfbffmckmchbbaaDoorTxE
import Derived.Test.YtfbffmckmchbbaaDoorManRS
import Derived.Deep.RegionHeld3
namespace Go.Proofs.YtfbffmckmchbbaaDoor
set_option linter.unusedVariables false
set_option linter.unusedSimpArgs false
open Go.RowKit Go.Lib

set_option maxRecDepth 100000 in
set_option maxHeartbeats 8000000 in
theorem walk_manifestTells (W : World) (tabs : TabsT W) {H : Type} {enc : TypeId × Value → H} {v0 v1 v2 : Value} (a0 : Arg enc Tryd.prog W 29 v0) (a1 : Arg enc Tryd.prog W 3 v1) (a2 : Arg enc Tryd.prog W 50 v2) :
    Calls Tryd.prog 10 #[v0, v1, v2] W fun e w' => e = .returned (.bool true) ∧ Below W.heap.size W w' := by
  obtain ⟨m, hs, rfl, hm⟩ := a0.manifest
  obtain ⟨iv, rfl, hiw⟩ := a1.int Tryd.underlying3
  obtain ⟨n0, n1, rfl, na, nb, nc, nd⟩ := two_ints a2
  have t := TB.start tabs.tabs
  have h0 := ((St.start W).alloc (.cells m.cells 29)).alloc (.cells #[.int .i64 n0, .int .i64 n1] 50)
  rw [World.size_alloc] at h0
  have kA := man_alive t h0
  obtain ⟨ba, hba⟩ : ∃ b, W.heap.size = b := ⟨_, rfl⟩
  rw [hba] at h0 kA
  have kG1 := fun (v : World) (F : List (Nat × Obj)) (hv : St W v (fun b => W.heap[b]?) F) => great_any m hm.ok hv
  have hmi : (Tryd.prog.info? 29).map (·.size) = some m.cells.size := by rw [Man.cells_size hm.ok]; kernel_rfl
  have hval : m.val = .agg m.cells := rfl
  rw [hval] at kG1 ⊢
  have hb64 : roCell (fun b => W.heap[b]?) ⟨8, 15, none⟩ = some (.int .u8 4) := tabs.b64
  have KA := Lib.hid kA; have TT := Lib.hid t; have HM := Lib.hid hm; have KG1 := Lib.hid kG1; have HMI := Lib.hid hmi; have T10 := Lib.hid tabs.t10; have HB64 := Lib.hid hb64
  clear kA h0 t a0 tabs kG1 hmi hval hm a1 a2 hiw hb64
  go_enter Tryd.func10, Tryd.ntmps10
  go_wp2_with fail
  refine KA.out.mono ?_
  rintro e w1 ⟨rfl, h1⟩
  have H1 := Lib.hid h1
  clear hba KA h1
  go_wp2_with (with_reducible refine wpList_load_st rfl 29 (.tmp 3) rfl (g := ba) (off := 0) rfl H1.out (cs := m.cells) (t := 29) (fr := (0, 0)) (by simp) m.cells (fun j hj => by rw [Nat.zero_add]) _ Tryd.underlying29 rfl HMI.out ?_)
  refine (KG1.out _ _ H1.out).mono ?_
  rintro e w2 ⟨rfl, h2⟩
  have H2 := Lib.hid h2
  have HF : Hid (Below W.heap.size W w2) := Lib.hid (h2.below (Le.refl _))
  clear h2 H1
  obtain ⟨G, hG⟩ : ∃ G, (decide (300 < m.prod.size) || decide (100 < m.n)) = G := ⟨_, rfl⟩
  rw [hG]
  cases G with
  | true =>
    clear hG
    go_wp2_with fail
    go_ret
    exact ⟨rfl, HF.out⟩
  | false =>
  have hsz : m.prod.size ≤ 300 ∧ m.n ≤ 100 := by
    simp only [Bool.or_eq_false_iff, decide_eq_false_iff_not] at hG
    omega
  have hp3 : m.prod.size ≤ 300 := hsz.1
  have MI1 : Hid (MI m hs W (fun b => W.heap[b]?)) := Lib.hid (HM.out.mi hsz.1 hsz.2)
  clear hG hsz KG1 HF
  have kS := fun (v : World) (F : List (Nat × Obj)) (hv : St W v (fun b => W.heap[b]?) F) => span_own TT.out m HM.out.ok (by omega) iv hv
  have kT := fun (v : World) (F : List (Nat × Obj)) (hv : St W v (fun b => W.heap[b]?) F) => rspan TT.out m HM.out.ok (by omega) iv hv
  obtain ⟨P, Q, hPQ⟩ : ∃ P Q, spanM m iv = (P, Q) := ⟨_, _, rfl⟩
  rw [hPQ, show m.val = .agg m.cells from rfl] at kS kT
  have KS := Lib.hid kS; have KT := Lib.hid kT
  clear kS kT hPQ
  go_wp2_with (with_reducible refine wpList_load_st rfl 29 (.tmp 3) rfl (g := ba) (off := 0) rfl H2.out (cs := m.cells) (t := 29) (fr := (0, 0)) (by simp) m.cells (fun j hj => by rw [Nat.zero_add]) _ Tryd.underlying29 rfl HMI.out ?_)
  refine (KS.out _ _ H2.out).mono ?_
  rintro e w3 ⟨rfl, h3⟩
  have H3 := Lib.hid h3
  clear h3 H2 KS
  go_wp2_with (with_reducible refine wpList_load_st rfl 29 (.tmp 3) rfl (g := ba) (off := 0) rfl H3.out (cs := m.cells) (t := 29) (fr := (0, 0)) (by simp) m.cells (fun j hj => by rw [Nat.zero_add]) _ Tryd.underlying29 rfl HMI.out ?_)
  refine (KT.out _ _ H3.out).mono ?_
  rintro e w4 ⟨rfl, h4⟩
  have H4 := Lib.hid h4
  clear h4 H3 KT
  have sx : ∀ v F, St W v (fun b => W.heap[b]?) F → (ba, Obj.cells m.cells 29 (0, 0)) ∈ F → (ba + 1, Obj.cells #[.int .i64 n0, .int .i64 n1] 50 (0, 0)) ∈ F → v.rangeAt ba 0 m.cells.toList ∧ v.cell? ⟨ba + 1, 0, none⟩ = some (.int .i64 n0) ∧ v.cell? ⟨ba + 1, 1, none⟩ = some (.int .i64 n1) := fun v F hv q1 q2 => ⟨hv.rangeAt (g := ba) (cs := m.cells) (t := 29) (fr := (0, 0)) q1 (fun j hj => by simp), hv.cell (g := ba + 1) q2 0, hv.cell (g := ba + 1) q2 1⟩
  have kR1 := fun (v : World) (F : List (Nat × Obj)) (hv : St W v (fun b => W.heap[b]?) F) => right_own TT.out m MI1.out.ok (by have := MI1.out.psz; omega) hv
  have kR2 := fun (v : World) (F : List (Nat × Obj)) (hv : St W v (fun b => W.heap[b]?) F) => rright13 TT.out m MI1.out.ok (by have := MI1.out.psz; omega) hv
  have kB1 := fun (v : World) (F : List (Nat × Obj)) (hv : St W v (fun b => W.heap[b]?) F) => pbytes TT.out MI1.out hv
  have kB2 := fun (v : World) (F : List (Nat × Obj)) (hv : St W v (fun b => W.heap[b]?) F) => prbytes TT.out MI1.out hv
  have kX1 := fun (v : World) (F : List (Nat × Obj)) (hv : St W v (fun b => W.heap[b]?) F) => mtext TT.out T10.out HB64.out m MI1.out.ok (by omega) hv
  have kX2 := fun (v : World) (F : List (Nat × Obj)) (hv : St W v (fun b => W.heap[b]?) F) => rmtext TT.out m MI1.out.ok (by omega) hv
  have kC1 := fun (v : World) => count_any n0 n1 nb nd v
  have kC2 := fun (v : World) => rcount n0 n1 nb nd v
  have hul : Tryd.prog.underlying 29 = some _ := Tryd.underlying29
  have hma : (Tryd.prog.info? 29).map (·.size) = some m.cells.toList.length := by rw [Array.length_toList]; exact HMI.out
  rw [show m.val = .agg m.cells from rfl] at kR1 kB1 kR2 kB2 kX1 kX2
  obtain ⟨X, hX⟩ : ∃ X, (if rightM m = true then mBy m hs else []) = X := ⟨_, rfl⟩
  obtain ⟨tx, htx⟩ : ∃ tx : ByteArray, (⟨(mTextL m).toArray⟩ : ByteArray) = tx := ⟨_, rfl⟩
  obtain ⟨cn, hcn⟩ : ∃ cn, cntM n0 n1 = cn := ⟨_, rfl⟩
  rw [hX] at kB1 kB2
  rw [htx] at kX1 kX2
  rw [hcn] at kC1 kC2
  obtain ⟨R, hR⟩ : ∃ R, rightM m = R := ⟨_, rfl⟩
  rw [hR] at kR1 kR2
  obtain ⟨sX, hsX⟩ : ∃ s, pA X = s := ⟨_, rfl⟩
  have hcx : ∀ (v : World) (A : Option Addr) (c : Nat), Src v 1 A X.length (X.map bval) → (convert 22 9 (.slice A X.length c)).run Tryd.prog v = .ok (.string sX) v := fun v A c h => by
    rw [← hsX]
    exact conv_str (P := Tryd.prog) Tryd.underlying22 Tryd.underlying5 Tryd.underlying9 (c := c) h
  have HCX := Lib.hid hcx
  have hx := H4.out.drew1
  have KR1 := Lib.hid kR1; have KR2 := Lib.hid kR2; have KB1 := Lib.hid kB1; have KB2 := Lib.hid kB2; have KX1 := Lib.hid kX1; have KX2 := Lib.hid kX2; have KC1 := Lib.hid kC1; have KC2 := Lib.hid kC2; have SX := Lib.hid sx; have HUL := Lib.hid hul; have HMA := Lib.hid hma
  clear kR1 kR2 kB1 kB2 kX1 kX2 kC1 kC2 sx hul hma hR hX htx hcn hsX hcx
  cases R
  all_goals
    go_wp2_with fail
    refine wp_region_held_drew (S := fun v => v.rangeAt ba 0 m.cells.toList ∧ v.cell? ⟨ba + 1, 0, none⟩ = some (.int .i64 n0) ∧ v.cell? ⟨ba + 1, 1, none⟩ = some (.int .i64 n1)) (by kernel_rfl) (SX.out _ _ hx (by simp) (by simp)) (fun hHeld => ?_)
    refine wpAnyH_take (i := 0) (oi := ?_) (v := ?_) ?_ ?_ ?_ ?_ ?_ ?_ ?_ ?_
    rotate_left 2
    · (simp only [List.getElem?_toArray, List.getElem?_cons_succ, List.getElem?_cons_zero]; exact rfl)
    · kernel_rfl
    · kernel_rfl
    · kernel_rfl
    · exact fun _ _ _ h => h
    · first | (first | ((refine yieldsIf_load_mid ?_ 29 (.tmp 3) ?_ ba 0 ?_ m.cells.toList _ ?_ HUL.out ?_ HMA.out) <;> first | rfl | exact fun w h => h.1) | (refine Or.inl ⟨by rfl, ?_⟩; intro w hSw; obtain ⟨hS1, hS2, hS3⟩ := hSw; go_simp; try with_reducible rfl)) | (refine Or.inr ⟨by rfl, ?_⟩; rfl)
    · assumption
    try simp only [Act.put, List.setIfInBounds_toArray, List.set_cons_zero, List.set_cons_succ]
    refine wpAnyH_take (i := 2) (oi := ?_) (v := ?_) ?_ ?_ ?_ ?_ ?_ ?_ ?_ ?_
    rotate_left 2
    · (simp only [List.getElem?_toArray, List.getElem?_cons_succ, List.getElem?_cons_zero]; exact rfl)
    · kernel_rfl
    · kernel_rfl
    · kernel_rfl
    · exact fun _ _ _ h => h
    · first | (first | ((refine yieldsIf_load_mid ?_ 29 (.tmp 3) ?_ ba 0 ?_ m.cells.toList _ ?_ HUL.out ?_ HMA.out) <;> first | rfl | exact fun w h => h.1) | (refine Or.inl ⟨by rfl, ?_⟩; intro w hSw; obtain ⟨hS1, hS2, hS3⟩ := hSw; go_simp; try with_reducible rfl)) | (refine Or.inr ⟨by rfl, ?_⟩; rfl)
    · assumption
    try simp only [Act.put, List.setIfInBounds_toArray, List.set_cons_zero, List.set_cons_succ]
    refine wpAnyH_ready (rs := [1]) (by kernel_rfl) (by simp) ?_
    refine AllReadyH.cons (o := ?_) ?_ (fun K hK => ?_) ?_
    rotate_left 1
    · (simp only [List.getElem?_toArray, List.getElem?_cons_succ, List.getElem?_cons_zero]; exact rfl)
    · go_simp
      (first | (go_at_call 21; (with_reducible refine (KR1.out _ _ hx).mono ?_); rintro e wx ⟨rfl, hx⟩; dsimp only) | (go_at_call 17; (with_reducible refine (KR2.out _ _ hx).mono ?_); rintro e wx ⟨rfl, hx⟩; dsimp only) | (go_at_call 18; (with_reducible refine (KB1.out _ _ hx).mono ?_); rintro e wx ⟨v5, rfl, A5, c5, L5, rfl, hr5, hx⟩; have hcv5 := HCX.out wx A5 c5 (hr5.src fun p hp => hx.own p (by simp [hp])); dsimp only) | (go_at_call 27; (with_reducible refine (KB2.out _ _ hx).mono ?_); rintro e wx ⟨v6, rfl, A6, c6, L6, rfl, hr6, hx⟩; have hcv6 := HCX.out wx A6 c6 (hr6.src fun p hp => hx.own p (by simp [hp])); have hcv5' := HCX.out wx A5 c5 (hr5.src fun p hp => hx.own p (by simp [hp])); dsimp only) | (go_at_call 25; (with_reducible refine (KX1.out _ _ hx).mono ?_); rintro e wx ⟨rfl, hx⟩; dsimp only) | (go_at_call 28; (with_reducible refine (KX2.out _ _ hx).mono ?_); rintro e wx ⟨rfl, hx⟩; dsimp only) | (go_at_call 23; (with_reducible refine (KC1.out _).mono ?_); rintro e wx ⟨rfl, rfl⟩; dsimp only) | (go_at_call 29; (with_reducible refine (KC2.out _).mono ?_); rintro e wx ⟨rfl, rfl⟩; dsimp only))
      refine hK.out _ _ ?_ (fun hHeld => ?_)
      · (try dsimp only) <;> (exact SX.out _ _ hx (by simp) (by simp))
      clear hK K
      try simp only [Act.put, List.setIfInBounds_toArray, List.set_cons_zero, List.set_cons_succ]
      refine wpAnyH_ready (rs := [3]) (by kernel_rfl) (by simp) ?_
      refine AllReadyH.cons (o := ?_) ?_ (fun K hK => ?_) ?_
      rotate_left 1
      · (simp only [List.getElem?_toArray, List.getElem?_cons_succ, List.getElem?_cons_zero]; exact rfl)
      · go_simp
        (first | (go_at_call 21; (with_reducible refine (KR1.out _ _ hx).mono ?_); rintro e wx ⟨rfl, hx⟩; dsimp only) | (go_at_call 17; (with_reducible refine (KR2.out _ _ hx).mono ?_); rintro e wx ⟨rfl, hx⟩; dsimp only) | (go_at_call 18; (with_reducible refine (KB1.out _ _ hx).mono ?_); rintro e wx ⟨v5, rfl, A5, c5, L5, rfl, hr5, hx⟩; have hcv5 := HCX.out wx A5 c5 (hr5.src fun p hp => hx.own p (by simp [hp])); dsimp only) | (go_at_call 27; (with_reducible refine (KB2.out _ _ hx).mono ?_); rintro e wx ⟨v6, rfl, A6, c6, L6, rfl, hr6, hx⟩; have hcv6 := HCX.out wx A6 c6 (hr6.src fun p hp => hx.own p (by simp [hp])); have hcv5' := HCX.out wx A5 c5 (hr5.src fun p hp => hx.own p (by simp [hp])); dsimp only) | (go_at_call 25; (with_reducible refine (KX1.out _ _ hx).mono ?_); rintro e wx ⟨rfl, hx⟩; dsimp only) | (go_at_call 28; (with_reducible refine (KX2.out _ _ hx).mono ?_); rintro e wx ⟨rfl, hx⟩; dsimp only) | (go_at_call 23; (with_reducible refine (KC1.out _).mono ?_); rintro e wx ⟨rfl, rfl⟩; dsimp only) | (go_at_call 29; (with_reducible refine (KC2.out _).mono ?_); rintro e wx ⟨rfl, rfl⟩; dsimp only))
        refine hK.out _ _ ?_ (fun hHeld => ?_)
        · (try dsimp only) <;> (exact SX.out _ _ hx (by simp) (by simp))
        clear hK K
        try simp only [Act.put, List.setIfInBounds_toArray, List.set_cons_zero, List.set_cons_succ]
        refine wpAnyH_take (i := 4) (oi := ?_) (v := ?_) ?_ ?_ ?_ ?_ ?_ ?_ ?_ ?_
        rotate_left 2
        · (simp only [List.getElem?_toArray, List.getElem?_cons_succ, List.getElem?_cons_zero]; exact rfl)
        · kernel_rfl
        · kernel_rfl
        · kernel_rfl
        · exact fun _ _ _ h => h
        · first | (refine Or.inl ⟨by rfl, ?_⟩; intro w hSw; (try dsimp only at hSw); go_simp; try with_reducible rfl) | (refine Or.inr ⟨by rfl, ?_⟩; rfl)
        · assumption
        try simp only [Act.put, List.setIfInBounds_toArray, List.set_cons_zero, List.set_cons_succ]
        refine wpAnyH_take (i := 5) (oi := ?_) (v := ?_) ?_ ?_ ?_ ?_ ?_ ?_ ?_ ?_
        rotate_left 2
        · (simp only [List.getElem?_toArray, List.getElem?_cons_succ, List.getElem?_cons_zero]; exact rfl)
        · kernel_rfl
        · kernel_rfl
        · kernel_rfl
        · exact fun _ _ _ h => h
        · first | (refine Or.inl ⟨by rfl, ?_⟩; intro w hSw; (try dsimp only at hSw); go_simp; try with_reducible rfl) | (refine Or.inr ⟨by rfl, ?_⟩; rfl)
        · assumption
        try simp only [Act.put, List.setIfInBounds_toArray, List.set_cons_zero, List.set_cons_succ]
        refine wpAnyH_take (i := 6) (oi := ?_) (v := ?_) ?_ ?_ ?_ ?_ ?_ ?_ ?_ ?_
        rotate_left 2
        · (simp only [List.getElem?_toArray, List.getElem?_cons_succ, List.getElem?_cons_zero]; exact rfl)
        · kernel_rfl
        · kernel_rfl
        · kernel_rfl
        · exact fun _ _ _ h => h
        · first | (first | ((refine yieldsIf_load_mid ?_ 29 (.tmp 3) ?_ ba 0 ?_ m.cells.toList _ ?_ HUL.out ?_ HMA.out) <;> first | rfl | exact fun w h => h.1) | (refine Or.inl ⟨by rfl, ?_⟩; intro w hSw; obtain ⟨hS1, hS2, hS3⟩ := hSw; go_simp; try with_reducible rfl)) | (refine Or.inr ⟨by rfl, ?_⟩; rfl)
        · assumption
        try simp only [Act.put, List.setIfInBounds_toArray, List.set_cons_zero, List.set_cons_succ]
        refine wpAnyH_take (i := 9) (oi := ?_) (v := ?_) ?_ ?_ ?_ ?_ ?_ ?_ ?_ ?_
        rotate_left 2
        · (simp only [List.getElem?_toArray, List.getElem?_cons_succ, List.getElem?_cons_zero]; exact rfl)
        · kernel_rfl
        · kernel_rfl
        · kernel_rfl
        · exact fun _ _ _ h => h
        · first | (first | ((refine yieldsIf_load_mid ?_ 29 (.tmp 3) ?_ ba 0 ?_ m.cells.toList _ ?_ HUL.out ?_ HMA.out) <;> first | rfl | exact fun w h => h.1) | (refine Or.inl ⟨by rfl, ?_⟩; intro w hSw; obtain ⟨hS1, hS2, hS3⟩ := hSw; go_simp; try with_reducible rfl)) | (refine Or.inr ⟨by rfl, ?_⟩; rfl)
        · assumption
        try simp only [Act.put, List.setIfInBounds_toArray, List.set_cons_zero, List.set_cons_succ]
        refine wpAnyH_ready (rs := [7]) (by kernel_rfl) (by simp) ?_
        refine AllReadyH.cons (o := ?_) ?_ (fun K hK => ?_) ?_
        rotate_left 1
        · (simp only [List.getElem?_toArray, List.getElem?_cons_succ, List.getElem?_cons_zero]; exact rfl)
        · go_simp
          (first | (go_at_call 21; (with_reducible refine (KR1.out _ _ hx).mono ?_); rintro e wx ⟨rfl, hx⟩; dsimp only) | (go_at_call 17; (with_reducible refine (KR2.out _ _ hx).mono ?_); rintro e wx ⟨rfl, hx⟩; dsimp only) | (go_at_call 18; (with_reducible refine (KB1.out _ _ hx).mono ?_); rintro e wx ⟨v5, rfl, A5, c5, L5, rfl, hr5, hx⟩; have hcv5 := HCX.out wx A5 c5 (hr5.src fun p hp => hx.own p (by simp [hp])); dsimp only) | (go_at_call 27; (with_reducible refine (KB2.out _ _ hx).mono ?_); rintro e wx ⟨v6, rfl, A6, c6, L6, rfl, hr6, hx⟩; have hcv6 := HCX.out wx A6 c6 (hr6.src fun p hp => hx.own p (by simp [hp])); have hcv5' := HCX.out wx A5 c5 (hr5.src fun p hp => hx.own p (by simp [hp])); dsimp only) | (go_at_call 25; (with_reducible refine (KX1.out _ _ hx).mono ?_); rintro e wx ⟨rfl, hx⟩; dsimp only) | (go_at_call 28; (with_reducible refine (KX2.out _ _ hx).mono ?_); rintro e wx ⟨rfl, hx⟩; dsimp only) | (go_at_call 23; (with_reducible refine (KC1.out _).mono ?_); rintro e wx ⟨rfl, rfl⟩; dsimp only) | (go_at_call 29; (with_reducible refine (KC2.out _).mono ?_); rintro e wx ⟨rfl, rfl⟩; dsimp only))
          refine hK.out _ _ ?_ (fun hHeld => ?_)
          · (try dsimp only) <;> (exact SX.out _ _ hx (by simp) (by simp))
          clear hK K
          try simp only [Act.put, List.setIfInBounds_toArray, List.set_cons_zero, List.set_cons_succ]
          refine wpAnyH_ready (rs := [8, 10]) (by kernel_rfl) (by simp) ?_
          refine AllReadyH.cons (o := ?_) ?_ (fun K hK => ?_) ?_
          rotate_left 1
          · (simp only [List.getElem?_toArray, List.getElem?_cons_succ, List.getElem?_cons_zero]; exact rfl)
          · go_simp
            refine hK.out _ _ ?_ (fun hHeld => ?_)
            · (try dsimp only) <;> (exact SX.out _ _ hx (by simp) (by simp))
            clear hK K
            try simp only [Act.put, List.setIfInBounds_toArray, List.set_cons_zero, List.set_cons_succ]
            refine wpAnyH_ready (rs := [10]) (by kernel_rfl) (by simp) ?_
            refine AllReadyH.cons (o := ?_) ?_ (fun K hK => ?_) ?_
            rotate_left 1
            · (simp only [List.getElem?_toArray, List.getElem?_cons_succ, List.getElem?_cons_zero]; exact rfl)
            · go_simp
              (first | (go_at_call 21; (with_reducible refine (KR1.out _ _ hx).mono ?_); rintro e wx ⟨rfl, hx⟩; dsimp only) | (go_at_call 17; (with_reducible refine (KR2.out _ _ hx).mono ?_); rintro e wx ⟨rfl, hx⟩; dsimp only) | (go_at_call 18; (with_reducible refine (KB1.out _ _ hx).mono ?_); rintro e wx ⟨v5, rfl, A5, c5, L5, rfl, hr5, hx⟩; have hcv5 := HCX.out wx A5 c5 (hr5.src fun p hp => hx.own p (by simp [hp])); dsimp only) | (go_at_call 27; (with_reducible refine (KB2.out _ _ hx).mono ?_); rintro e wx ⟨v6, rfl, A6, c6, L6, rfl, hr6, hx⟩; have hcv6 := HCX.out wx A6 c6 (hr6.src fun p hp => hx.own p (by simp [hp])); have hcv5' := HCX.out wx A5 c5 (hr5.src fun p hp => hx.own p (by simp [hp])); dsimp only) | (go_at_call 25; (with_reducible refine (KX1.out _ _ hx).mono ?_); rintro e wx ⟨rfl, hx⟩; dsimp only) | (go_at_call 28; (with_reducible refine (KX2.out _ _ hx).mono ?_); rintro e wx ⟨rfl, hx⟩; dsimp only) | (go_at_call 23; (with_reducible refine (KC1.out _).mono ?_); rintro e wx ⟨rfl, rfl⟩; dsimp only) | (go_at_call 29; (with_reducible refine (KC2.out _).mono ?_); rintro e wx ⟨rfl, rfl⟩; dsimp only))
              refine hK.out _ _ ?_ (fun hHeld => ?_)
              · (try dsimp only) <;> (exact SX.out _ _ hx (by simp) (by simp))
              clear hK K
              try simp only [Act.put, List.setIfInBounds_toArray, List.set_cons_zero, List.set_cons_succ]
              refine wpAnyH_ready (rs := [11]) (by kernel_rfl) (by simp) ?_
              refine AllReadyH.cons (o := ?_) ?_ (fun K hK => ?_) ?_
              rotate_left 1
              · (simp only [List.getElem?_toArray, List.getElem?_cons_succ, List.getElem?_cons_zero]; exact rfl)
              · go_simp
                refine hK.out _ _ ?_ (fun hHeld => ?_)
                · (try dsimp only) <;> (exact SX.out _ _ hx (by simp) (by simp))
                clear hK K
                try simp only [Act.put, List.setIfInBounds_toArray, List.set_cons_zero, List.set_cons_succ]
                refine wpAnyH_take (i := 12) (oi := ?_) (v := ?_) ?_ ?_ ?_ ?_ ?_ ?_ ?_ ?_
                rotate_left 2
                · (simp only [List.getElem?_toArray, List.getElem?_cons_succ, List.getElem?_cons_zero]; exact rfl)
                · kernel_rfl
                · kernel_rfl
                · kernel_rfl
                · exact fun _ _ _ h => h
                · first | (refine Or.inl ⟨by rfl, ?_⟩; intro w hSw; (try dsimp only at hSw); go_simp; try with_reducible rfl) | (refine Or.inr ⟨by rfl, ?_⟩; rfl)
                · assumption
                try simp only [Act.put, List.setIfInBounds_toArray, List.set_cons_zero, List.set_cons_succ]
                refine wpAnyH_take (i := 13) (oi := ?_) (v := ?_) ?_ ?_ ?_ ?_ ?_ ?_ ?_ ?_
                rotate_left 2
                · (simp only [List.getElem?_toArray, List.getElem?_cons_succ, List.getElem?_cons_zero]; exact rfl)
                · kernel_rfl
                · kernel_rfl
                · kernel_rfl
                · exact fun _ _ _ h => h
                · first | (refine Or.inl ⟨by rfl, ?_⟩; intro w hSw; (try dsimp only at hSw); go_simp; try with_reducible rfl) | (refine Or.inr ⟨by rfl, ?_⟩; rfl)
                · assumption
                try simp only [Act.put, List.setIfInBounds_toArray, List.set_cons_zero, List.set_cons_succ]
                refine wpAnyH_take (i := 14) (oi := ?_) (v := ?_) ?_ ?_ ?_ ?_ ?_ ?_ ?_ ?_
                rotate_left 2
                · (simp only [List.getElem?_toArray, List.getElem?_cons_succ, List.getElem?_cons_zero]; exact rfl)
                · kernel_rfl
                · kernel_rfl
                · kernel_rfl
                · exact fun _ _ _ h => h
                · first | (refine Or.inl ⟨by rfl, ?_⟩; intro w hSw; (try dsimp only at hSw); go_simp; try with_reducible rfl) | (refine Or.inr ⟨by rfl, ?_⟩; rfl)
                · assumption
                try simp only [Act.put, List.setIfInBounds_toArray, List.set_cons_zero, List.set_cons_succ]
                refine wpAnyH_take (i := 15) (oi := ?_) (v := ?_) ?_ ?_ ?_ ?_ ?_ ?_ ?_ ?_
                rotate_left 2
                · (simp only [List.getElem?_toArray, List.getElem?_cons_succ, List.getElem?_cons_zero]; exact rfl)
                · kernel_rfl
                · kernel_rfl
                · kernel_rfl
                · exact fun _ _ _ h => h
                · first | (first | ((refine yieldsIf_load_mid ?_ 29 (.tmp 3) ?_ ba 0 ?_ m.cells.toList _ ?_ HUL.out ?_ HMA.out) <;> first | rfl | exact fun w h => h.1) | (refine Or.inl ⟨by rfl, ?_⟩; intro w hSw; obtain ⟨hS1, hS2, hS3⟩ := hSw; go_simp; try with_reducible rfl)) | (refine Or.inr ⟨by rfl, ?_⟩; rfl)
                · assumption
                try simp only [Act.put, List.setIfInBounds_toArray, List.set_cons_zero, List.set_cons_succ]
                refine wpAnyH_take (i := 17) (oi := ?_) (v := ?_) ?_ ?_ ?_ ?_ ?_ ?_ ?_ ?_
                rotate_left 2
                · (simp only [List.getElem?_toArray, List.getElem?_cons_succ, List.getElem?_cons_zero]; exact rfl)
                · kernel_rfl
                · kernel_rfl
                · kernel_rfl
                · exact fun _ _ _ h => h
                · first | (first | ((refine yieldsIf_load_mid ?_ 29 (.tmp 3) ?_ ba 0 ?_ m.cells.toList _ ?_ HUL.out ?_ HMA.out) <;> first | rfl | exact fun w h => h.1) | (refine Or.inl ⟨by rfl, ?_⟩; intro w hSw; obtain ⟨hS1, hS2, hS3⟩ := hSw; go_simp; try with_reducible rfl)) | (refine Or.inr ⟨by rfl, ?_⟩; rfl)
                · assumption
                try simp only [Act.put, List.setIfInBounds_toArray, List.set_cons_zero, List.set_cons_succ]
                refine wpAnyH_ready (rs := [16]) (by kernel_rfl) (by simp) ?_
                refine AllReadyH.cons (o := ?_) ?_ (fun K hK => ?_) ?_
                rotate_left 1
                · (simp only [List.getElem?_toArray, List.getElem?_cons_succ, List.getElem?_cons_zero]; exact rfl)
                · go_simp
                  (first | (go_at_call 21; (with_reducible refine (KR1.out _ _ hx).mono ?_); rintro e wx ⟨rfl, hx⟩; dsimp only) | (go_at_call 17; (with_reducible refine (KR2.out _ _ hx).mono ?_); rintro e wx ⟨rfl, hx⟩; dsimp only) | (go_at_call 18; (with_reducible refine (KB1.out _ _ hx).mono ?_); rintro e wx ⟨v5, rfl, A5, c5, L5, rfl, hr5, hx⟩; have hcv5 := HCX.out wx A5 c5 (hr5.src fun p hp => hx.own p (by simp [hp])); dsimp only) | (go_at_call 27; (with_reducible refine (KB2.out _ _ hx).mono ?_); rintro e wx ⟨v6, rfl, A6, c6, L6, rfl, hr6, hx⟩; have hcv6 := HCX.out wx A6 c6 (hr6.src fun p hp => hx.own p (by simp [hp])); have hcv5' := HCX.out wx A5 c5 (hr5.src fun p hp => hx.own p (by simp [hp])); dsimp only) | (go_at_call 25; (with_reducible refine (KX1.out _ _ hx).mono ?_); rintro e wx ⟨rfl, hx⟩; dsimp only) | (go_at_call 28; (with_reducible refine (KX2.out _ _ hx).mono ?_); rintro e wx ⟨rfl, hx⟩; dsimp only) | (go_at_call 23; (with_reducible refine (KC1.out _).mono ?_); rintro e wx ⟨rfl, rfl⟩; dsimp only) | (go_at_call 29; (with_reducible refine (KC2.out _).mono ?_); rintro e wx ⟨rfl, rfl⟩; dsimp only))
                  refine hK.out _ _ ?_ (fun hHeld => ?_)
                  · (try dsimp only) <;> (exact SX.out _ _ hx (by simp) (by simp))
                  clear hK K
                  try simp only [Act.put, List.setIfInBounds_toArray, List.set_cons_zero, List.set_cons_succ]
                  refine wpAnyH_ready (rs := [18]) (by kernel_rfl) (by simp) ?_
                  refine AllReadyH.cons (o := ?_) ?_ (fun K hK => ?_) ?_
                  rotate_left 1
                  · (simp only [List.getElem?_toArray, List.getElem?_cons_succ, List.getElem?_cons_zero]; exact rfl)
                  · go_simp
                    (first | (go_at_call 21; (with_reducible refine (KR1.out _ _ hx).mono ?_); rintro e wx ⟨rfl, hx⟩; dsimp only) | (go_at_call 17; (with_reducible refine (KR2.out _ _ hx).mono ?_); rintro e wx ⟨rfl, hx⟩; dsimp only) | (go_at_call 18; (with_reducible refine (KB1.out _ _ hx).mono ?_); rintro e wx ⟨v5, rfl, A5, c5, L5, rfl, hr5, hx⟩; have hcv5 := HCX.out wx A5 c5 (hr5.src fun p hp => hx.own p (by simp [hp])); dsimp only) | (go_at_call 27; (with_reducible refine (KB2.out _ _ hx).mono ?_); rintro e wx ⟨v6, rfl, A6, c6, L6, rfl, hr6, hx⟩; have hcv6 := HCX.out wx A6 c6 (hr6.src fun p hp => hx.own p (by simp [hp])); have hcv5' := HCX.out wx A5 c5 (hr5.src fun p hp => hx.own p (by simp [hp])); dsimp only) | (go_at_call 25; (with_reducible refine (KX1.out _ _ hx).mono ?_); rintro e wx ⟨rfl, hx⟩; dsimp only) | (go_at_call 28; (with_reducible refine (KX2.out _ _ hx).mono ?_); rintro e wx ⟨rfl, hx⟩; dsimp only) | (go_at_call 23; (with_reducible refine (KC1.out _).mono ?_); rintro e wx ⟨rfl, rfl⟩; dsimp only) | (go_at_call 29; (with_reducible refine (KC2.out _).mono ?_); rintro e wx ⟨rfl, rfl⟩; dsimp only))
                    refine hK.out _ _ ?_ (fun hHeld => ?_)
                    · (try dsimp only) <;> (exact SX.out _ _ hx (by simp) (by simp))
                    clear hK K
                    try simp only [Act.put, List.setIfInBounds_toArray, List.set_cons_zero, List.set_cons_succ]
                    refine wpAnyH_take (i := 19) (oi := ?_) (v := ?_) ?_ ?_ ?_ ?_ ?_ ?_ ?_ ?_
                    rotate_left 2
                    · (simp only [List.getElem?_toArray, List.getElem?_cons_succ, List.getElem?_cons_zero]; exact rfl)
                    · kernel_rfl
                    · kernel_rfl
                    · kernel_rfl
                    · exact fun _ _ _ h => h
                    · first | (refine Or.inl ⟨by rfl, ?_⟩; intro w hSw; (try dsimp only at hSw); go_simp; try with_reducible rfl) | (refine Or.inr ⟨by rfl, ?_⟩; rfl)
                    · assumption
                    try simp only [Act.put, List.setIfInBounds_toArray, List.set_cons_zero, List.set_cons_succ]
                    refine wpAnyH_take (i := 20) (oi := ?_) (v := ?_) ?_ ?_ ?_ ?_ ?_ ?_ ?_ ?_
                    rotate_left 2
                    · (simp only [List.getElem?_toArray, List.getElem?_cons_succ, List.getElem?_cons_zero]; exact rfl)
                    · kernel_rfl
                    · kernel_rfl
                    · kernel_rfl
                    · exact fun _ _ _ h => h
                    · first | (refine Or.inl ⟨by rfl, ?_⟩; intro w hSw; (try dsimp only at hSw); go_simp; try with_reducible rfl) | (refine Or.inr ⟨by rfl, ?_⟩; rfl)
                    · assumption
                    try simp only [Act.put, List.setIfInBounds_toArray, List.set_cons_zero, List.set_cons_succ]
                    refine wpAnyH_take (i := 21) (oi := ?_) (v := ?_) ?_ ?_ ?_ ?_ ?_ ?_ ?_ ?_
                    rotate_left 2
                    · (simp only [List.getElem?_toArray, List.getElem?_cons_succ, List.getElem?_cons_zero]; exact rfl)
                    · kernel_rfl
                    · kernel_rfl
                    · kernel_rfl
                    · exact fun _ _ _ h => h
                    · first | (refine Or.inl ⟨by rfl, ?_⟩; intro w hSw; (try dsimp only at hSw); go_simp; try with_reducible rfl) | (refine Or.inr ⟨by rfl, ?_⟩; rfl)
                    · assumption
                    try simp only [Act.put, List.setIfInBounds_toArray, List.set_cons_zero, List.set_cons_succ]
                    refine wpAnyH_take (i := 22) (oi := ?_) (v := ?_) ?_ ?_ ?_ ?_ ?_ ?_ ?_ ?_
                    rotate_left 2
                    · (simp only [List.getElem?_toArray, List.getElem?_cons_succ, List.getElem?_cons_zero]; exact rfl)
                    · kernel_rfl
                    · kernel_rfl
                    · kernel_rfl
                    · exact fun _ _ _ h => h
                    · first | (refine Or.inl ⟨by rfl, ?_⟩; intro w hSw; (try dsimp only at hSw); go_simp; try with_reducible rfl) | (refine Or.inr ⟨by rfl, ?_⟩; rfl)
                    · assumption
                    try simp only [Act.put, List.setIfInBounds_toArray, List.set_cons_zero, List.set_cons_succ]
                    refine wpAnyH_take (i := 23) (oi := ?_) (v := ?_) ?_ ?_ ?_ ?_ ?_ ?_ ?_ ?_
                    rotate_left 2
                    · (simp only [List.getElem?_toArray, List.getElem?_cons_succ, List.getElem?_cons_zero]; exact rfl)
                    · kernel_rfl
                    · kernel_rfl
                    · kernel_rfl
                    · exact fun _ _ _ h => h
                    · first | (refine Or.inl ⟨by rfl, ?_⟩; intro w hSw; (try dsimp only at hSw); go_simp; try with_reducible rfl) | (refine Or.inr ⟨by rfl, ?_⟩; rfl)
                    · assumption
                    try simp only [Act.put, List.setIfInBounds_toArray, List.set_cons_zero, List.set_cons_succ]
                    refine wpAnyH_take (i := 24) (oi := ?_) (v := ?_) ?_ ?_ ?_ ?_ ?_ ?_ ?_ ?_
                    rotate_left 2
                    · (simp only [List.getElem?_toArray, List.getElem?_cons_succ, List.getElem?_cons_zero]; exact rfl)
                    · kernel_rfl
                    · kernel_rfl
                    · kernel_rfl
                    · exact fun _ _ _ h => h
                    · first | (refine Or.inl ⟨by rfl, ?_⟩; intro w hSw; (try dsimp only at hSw); go_simp; try with_reducible rfl) | (refine Or.inr ⟨by rfl, ?_⟩; rfl)
                    · assumption
                    try simp only [Act.put, List.setIfInBounds_toArray, List.set_cons_zero, List.set_cons_succ]
                    refine wpAnyH_take (i := 25) (oi := ?_) (v := ?_) ?_ ?_ ?_ ?_ ?_ ?_ ?_ ?_
                    rotate_left 2
                    · (simp only [List.getElem?_toArray, List.getElem?_cons_succ, List.getElem?_cons_zero]; exact rfl)
                    · kernel_rfl
                    · kernel_rfl
                    · kernel_rfl
                    · exact fun _ _ _ h => h
                    · first | (refine Or.inl ⟨by rfl, ?_⟩; intro w hSw; (try dsimp only at hSw); go_simp; try with_reducible rfl) | (refine Or.inr ⟨by rfl, ?_⟩; rfl)
                    · assumption
                    try simp only [Act.put, List.setIfInBounds_toArray, List.set_cons_zero, List.set_cons_succ]
                    refine wpAnyH_take (i := 26) (oi := ?_) (v := ?_) ?_ ?_ ?_ ?_ ?_ ?_ ?_ ?_
                    rotate_left 2
                    · (simp only [List.getElem?_toArray, List.getElem?_cons_succ, List.getElem?_cons_zero]; exact rfl)
                    · kernel_rfl
                    · kernel_rfl
                    · kernel_rfl
                    · exact fun _ _ _ h => h
                    · first | (refine Or.inl ⟨by rfl, ?_⟩; intro w hSw; (try dsimp only at hSw); go_simp; try with_reducible rfl) | (refine Or.inr ⟨by rfl, ?_⟩; rfl)
                    · assumption
                    try simp only [Act.put, List.setIfInBounds_toArray, List.set_cons_zero, List.set_cons_succ]
                    refine wpAnyH_take (i := 27) (oi := ?_) (v := ?_) ?_ ?_ ?_ ?_ ?_ ?_ ?_ ?_
                    rotate_left 2
                    · (simp only [List.getElem?_toArray, List.getElem?_cons_succ, List.getElem?_cons_zero]; exact rfl)
                    · kernel_rfl
                    · kernel_rfl
                    · kernel_rfl
                    · exact fun _ _ _ h => h
                    · first | (refine Or.inl ⟨by rfl, ?_⟩; intro w hSw; (try dsimp only at hSw); go_simp; try with_reducible rfl) | (refine Or.inr ⟨by rfl, ?_⟩; rfl)
                    · assumption
                    try simp only [Act.put, List.setIfInBounds_toArray, List.set_cons_zero, List.set_cons_succ]
                    refine wpAnyH_take (i := 28) (oi := ?_) (v := ?_) ?_ ?_ ?_ ?_ ?_ ?_ ?_ ?_
                    rotate_left 2
                    · (simp only [List.getElem?_toArray, List.getElem?_cons_succ, List.getElem?_cons_zero]; exact rfl)
                    · kernel_rfl
                    · kernel_rfl
                    · kernel_rfl
                    · exact fun _ _ _ h => h
                    · first | (refine Or.inl ⟨by rfl, ?_⟩; intro w hSw; (try dsimp only at hSw); go_simp; try with_reducible rfl) | (refine Or.inr ⟨by rfl, ?_⟩; rfl)
                    · assumption
                    try simp only [Act.put, List.setIfInBounds_toArray, List.set_cons_zero, List.set_cons_succ]
                    refine wpAnyH_take (i := 29) (oi := ?_) (v := ?_) ?_ ?_ ?_ ?_ ?_ ?_ ?_ ?_
                    rotate_left 2
                    · (simp only [List.getElem?_toArray, List.getElem?_cons_succ, List.getElem?_cons_zero]; exact rfl)
                    · kernel_rfl
                    · kernel_rfl
                    · kernel_rfl
                    · exact fun _ _ _ h => h
                    · first | (refine Or.inl ⟨by rfl, ?_⟩; intro w hSw; (try dsimp only at hSw); go_simp; try with_reducible rfl) | (refine Or.inr ⟨by rfl, ?_⟩; rfl)
                    · assumption
                    try simp only [Act.put, List.setIfInBounds_toArray, List.set_cons_zero, List.set_cons_succ]
                    refine wpAnyH_take (i := 30) (oi := ?_) (v := ?_) ?_ ?_ ?_ ?_ ?_ ?_ ?_ ?_
                    rotate_left 2
                    · (simp only [List.getElem?_toArray, List.getElem?_cons_succ, List.getElem?_cons_zero]; exact rfl)
                    · kernel_rfl
                    · kernel_rfl
                    · kernel_rfl
                    · exact fun _ _ _ h => h
                    · first | (refine Or.inl ⟨by rfl, ?_⟩; intro w hSw; (try dsimp only at hSw); go_simp; try with_reducible rfl) | (refine Or.inr ⟨by rfl, ?_⟩; rfl)
                    · assumption
                    try simp only [Act.put, List.setIfInBounds_toArray, List.set_cons_zero, List.set_cons_succ]
                    refine wpAnyH_take (i := 31) (oi := ?_) (v := ?_) ?_ ?_ ?_ ?_ ?_ ?_ ?_ ?_
                    rotate_left 2
                    · (simp only [List.getElem?_toArray, List.getElem?_cons_succ, List.getElem?_cons_zero]; exact rfl)
                    · kernel_rfl
                    · kernel_rfl
                    · kernel_rfl
                    · exact fun _ _ _ h => h
                    · first | (refine Or.inl ⟨by rfl, ?_⟩; intro w hSw; (try dsimp only at hSw); go_simp; try with_reducible rfl) | (refine Or.inr ⟨by rfl, ?_⟩; rfl)
                    · assumption
                    try simp only [Act.put, List.setIfInBounds_toArray, List.set_cons_zero, List.set_cons_succ]
                    refine wpAnyH_take (i := 32) (oi := ?_) (v := ?_) ?_ ?_ ?_ ?_ ?_ ?_ ?_ ?_
                    rotate_left 2
                    · (simp only [List.getElem?_toArray, List.getElem?_cons_succ, List.getElem?_cons_zero]; exact rfl)
                    · kernel_rfl
                    · kernel_rfl
                    · kernel_rfl
                    · exact fun _ _ _ h => h
                    · first | (refine Or.inl ⟨by rfl, ?_⟩; intro w hSw; (try dsimp only at hSw); go_simp; try with_reducible rfl) | (refine Or.inr ⟨by rfl, ?_⟩; rfl)
                    · assumption
                    try simp only [Act.put, List.setIfInBounds_toArray, List.set_cons_zero, List.set_cons_succ]
                    refine wpAnyH_take (i := 33) (oi := ?_) (v := ?_) ?_ ?_ ?_ ?_ ?_ ?_ ?_ ?_
                    rotate_left 2
                    · (simp only [List.getElem?_toArray, List.getElem?_cons_succ, List.getElem?_cons_zero]; exact rfl)
                    · kernel_rfl
                    · kernel_rfl
                    · kernel_rfl
                    · exact fun _ _ _ h => h
                    · first | (first | ((refine yieldsIf_load_mid ?_ 29 (.tmp 3) ?_ ba 0 ?_ m.cells.toList _ ?_ HUL.out ?_ HMA.out) <;> first | rfl | exact fun w h => h.1) | (refine Or.inl ⟨by rfl, ?_⟩; intro w hSw; obtain ⟨hS1, hS2, hS3⟩ := hSw; go_simp; try with_reducible rfl)) | (refine Or.inr ⟨by rfl, ?_⟩; rfl)
                    · assumption
                    try simp only [Act.put, List.setIfInBounds_toArray, List.set_cons_zero, List.set_cons_succ]
                    refine wpAnyH_take (i := 34) (oi := ?_) (v := ?_) ?_ ?_ ?_ ?_ ?_ ?_ ?_ ?_
                    rotate_left 2
                    · (simp only [List.getElem?_toArray, List.getElem?_cons_succ, List.getElem?_cons_zero]; exact rfl)
                    · kernel_rfl
                    · kernel_rfl
                    · kernel_rfl
                    · exact fun _ _ _ h => h
                    · first | (refine Or.inl ⟨by rfl, ?_⟩; intro w hSw; (try dsimp only at hSw); go_simp; try with_reducible rfl) | (refine Or.inr ⟨by rfl, ?_⟩; rfl)
                    · assumption
                    try simp only [Act.put, List.setIfInBounds_toArray, List.set_cons_zero, List.set_cons_succ]
                    refine wpAnyH_take (i := 35) (oi := ?_) (v := ?_) ?_ ?_ ?_ ?_ ?_ ?_ ?_ ?_
                    rotate_left 2
                    · (simp only [List.getElem?_toArray, List.getElem?_cons_succ, List.getElem?_cons_zero]; exact rfl)
                    · kernel_rfl
                    · kernel_rfl
                    · kernel_rfl
                    · exact fun _ _ _ h => h
                    · first | (first | ((refine yieldsIf_load_mid ?_ 29 (.tmp 3) ?_ ba 0 ?_ m.cells.toList _ ?_ HUL.out ?_ HMA.out) <;> first | rfl | exact fun w h => h.1) | (refine Or.inl ⟨by rfl, ?_⟩; intro w hSw; obtain ⟨hS1, hS2, hS3⟩ := hSw; go_simp; try with_reducible rfl)) | (refine Or.inr ⟨by rfl, ?_⟩; rfl)
                    · assumption
                    try simp only [Act.put, List.setIfInBounds_toArray, List.set_cons_zero, List.set_cons_succ]
                    refine wpAnyH_take (i := 37) (oi := ?_) (v := ?_) ?_ ?_ ?_ ?_ ?_ ?_ ?_ ?_
                    rotate_left 2
                    · (simp only [List.getElem?_toArray, List.getElem?_cons_succ, List.getElem?_cons_zero]; exact rfl)
                    · kernel_rfl
                    · kernel_rfl
                    · kernel_rfl
                    · exact fun _ _ _ h => h
                    · first | (refine Or.inl ⟨by rfl, ?_⟩; intro w hSw; (try dsimp only at hSw); go_simp; try with_reducible rfl) | (refine Or.inr ⟨by rfl, ?_⟩; rfl)
                    · assumption
                    try simp only [Act.put, List.setIfInBounds_toArray, List.set_cons_zero, List.set_cons_succ]
                    refine wpAnyH_take (i := 38) (oi := ?_) (v := ?_) ?_ ?_ ?_ ?_ ?_ ?_ ?_ ?_
                    rotate_left 2
                    · (simp only [List.getElem?_toArray, List.getElem?_cons_succ, List.getElem?_cons_zero]; exact rfl)
                    · kernel_rfl
                    · kernel_rfl
                    · kernel_rfl
                    · exact fun _ _ _ h => h
                    · first | (first | ((refine yieldsIf_load_mid ?_ 29 (.tmp 3) ?_ ba 0 ?_ m.cells.toList _ ?_ HUL.out ?_ HMA.out) <;> first | rfl | exact fun w h => h.1) | (refine Or.inl ⟨by rfl, ?_⟩; intro w hSw; obtain ⟨hS1, hS2, hS3⟩ := hSw; go_simp; try with_reducible rfl)) | (refine Or.inr ⟨by rfl, ?_⟩; rfl)
                    · assumption
                    try simp only [Act.put, List.setIfInBounds_toArray, List.set_cons_zero, List.set_cons_succ]
                    refine wpAnyH_take (i := 39) (oi := ?_) (v := ?_) ?_ ?_ ?_ ?_ ?_ ?_ ?_ ?_
                    rotate_left 2
                    · (simp only [List.getElem?_toArray, List.getElem?_cons_succ, List.getElem?_cons_zero]; exact rfl)
                    · kernel_rfl
                    · kernel_rfl
                    · kernel_rfl
                    · exact fun _ _ _ h => h
                    · first | (refine Or.inl ⟨by rfl, ?_⟩; intro w hSw; (try dsimp only at hSw); go_simp; try with_reducible rfl) | (refine Or.inr ⟨by rfl, ?_⟩; rfl)
                    · assumption
                    try simp only [Act.put, List.setIfInBounds_toArray, List.set_cons_zero, List.set_cons_succ]
                    refine wpAnyH_take (i := 40) (oi := ?_) (v := ?_) ?_ ?_ ?_ ?_ ?_ ?_ ?_ ?_
                    rotate_left 2
                    · (simp only [List.getElem?_toArray, List.getElem?_cons_succ, List.getElem?_cons_zero]; exact rfl)
                    · kernel_rfl
                    · kernel_rfl
                    · kernel_rfl
                    · exact fun _ _ _ h => h
                    · first | (first | ((refine yieldsIf_load_mid ?_ 29 (.tmp 3) ?_ ba 0 ?_ m.cells.toList _ ?_ HUL.out ?_ HMA.out) <;> first | rfl | exact fun w h => h.1) | (refine Or.inl ⟨by rfl, ?_⟩; intro w hSw; obtain ⟨hS1, hS2, hS3⟩ := hSw; go_simp; try with_reducible rfl)) | (refine Or.inr ⟨by rfl, ?_⟩; rfl)
                    · assumption
                    try simp only [Act.put, List.setIfInBounds_toArray, List.set_cons_zero, List.set_cons_succ]
                    refine wpAnyH_ready (rs := [36]) (by kernel_rfl) (by simp) ?_
                    refine AllReadyH.cons (o := ?_) ?_ (fun K hK => ?_) ?_
                    rotate_left 1
                    · (simp only [List.getElem?_toArray, List.getElem?_cons_succ, List.getElem?_cons_zero]; exact rfl)
                    · go_simp
                      (first | (go_at_call 21; (with_reducible refine (KR1.out _ _ hx).mono ?_); rintro e wx ⟨rfl, hx⟩; dsimp only) | (go_at_call 17; (with_reducible refine (KR2.out _ _ hx).mono ?_); rintro e wx ⟨rfl, hx⟩; dsimp only) | (go_at_call 18; (with_reducible refine (KB1.out _ _ hx).mono ?_); rintro e wx ⟨v5, rfl, A5, c5, L5, rfl, hr5, hx⟩; have hcv5 := HCX.out wx A5 c5 (hr5.src fun p hp => hx.own p (by simp [hp])); dsimp only) | (go_at_call 27; (with_reducible refine (KB2.out _ _ hx).mono ?_); rintro e wx ⟨v6, rfl, A6, c6, L6, rfl, hr6, hx⟩; have hcv6 := HCX.out wx A6 c6 (hr6.src fun p hp => hx.own p (by simp [hp])); have hcv5' := HCX.out wx A5 c5 (hr5.src fun p hp => hx.own p (by simp [hp])); dsimp only) | (go_at_call 25; (with_reducible refine (KX1.out _ _ hx).mono ?_); rintro e wx ⟨rfl, hx⟩; dsimp only) | (go_at_call 28; (with_reducible refine (KX2.out _ _ hx).mono ?_); rintro e wx ⟨rfl, hx⟩; dsimp only) | (go_at_call 23; (with_reducible refine (KC1.out _).mono ?_); rintro e wx ⟨rfl, rfl⟩; dsimp only) | (go_at_call 29; (with_reducible refine (KC2.out _).mono ?_); rintro e wx ⟨rfl, rfl⟩; dsimp only))
                      refine hK.out _ _ ?_ (fun hHeld => ?_)
                      · (try dsimp only) <;> (exact SX.out _ _ hx (by simp) (by simp))
                      clear hK K
                      try simp only [Act.put, List.setIfInBounds_toArray, List.set_cons_zero, List.set_cons_succ]
                      refine wpAnyH_ready (rs := [41]) (by kernel_rfl) (by simp) ?_
                      refine AllReadyH.cons (o := ?_) ?_ (fun K hK => ?_) ?_
                      rotate_left 1
                      · (simp only [List.getElem?_toArray, List.getElem?_cons_succ, List.getElem?_cons_zero]; exact rfl)
                      · go_simp
                        (first | (go_at_call 21; (with_reducible refine (KR1.out _ _ hx).mono ?_); rintro e wx ⟨rfl, hx⟩; dsimp only) | (go_at_call 17; (with_reducible refine (KR2.out _ _ hx).mono ?_); rintro e wx ⟨rfl, hx⟩; dsimp only) | (go_at_call 18; (with_reducible refine (KB1.out _ _ hx).mono ?_); rintro e wx ⟨v5, rfl, A5, c5, L5, rfl, hr5, hx⟩; have hcv5 := HCX.out wx A5 c5 (hr5.src fun p hp => hx.own p (by simp [hp])); dsimp only) | (go_at_call 27; (with_reducible refine (KB2.out _ _ hx).mono ?_); rintro e wx ⟨v6, rfl, A6, c6, L6, rfl, hr6, hx⟩; have hcv6 := HCX.out wx A6 c6 (hr6.src fun p hp => hx.own p (by simp [hp])); have hcv5' := HCX.out wx A5 c5 (hr5.src fun p hp => hx.own p (by simp [hp])); dsimp only) | (go_at_call 25; (with_reducible refine (KX1.out _ _ hx).mono ?_); rintro e wx ⟨rfl, hx⟩; dsimp only) | (go_at_call 28; (with_reducible refine (KX2.out _ _ hx).mono ?_); rintro e wx ⟨rfl, hx⟩; dsimp only) | (go_at_call 23; (with_reducible refine (KC1.out _).mono ?_); rintro e wx ⟨rfl, rfl⟩; dsimp only) | (go_at_call 29; (with_reducible refine (KC2.out _).mono ?_); rintro e wx ⟨rfl, rfl⟩; dsimp only))
                        refine hK.out _ _ ?_ (fun hHeld => ?_)
                        · (try dsimp only) <;> (exact SX.out _ _ hx (by simp) (by simp))
                        clear hK K
                        try simp only [Act.put, List.setIfInBounds_toArray, List.set_cons_zero, List.set_cons_succ]
                        refine wpAnyH_take (i := 42) (oi := ?_) (v := ?_) ?_ ?_ ?_ ?_ ?_ ?_ ?_ ?_
                        rotate_left 2
                        · (simp only [List.getElem?_toArray, List.getElem?_cons_succ, List.getElem?_cons_zero]; exact rfl)
                        · kernel_rfl
                        · kernel_rfl
                        · kernel_rfl
                        · exact fun _ _ _ h => h
                        · first | (refine Or.inl ⟨by rfl, ?_⟩; intro w hSw; (try dsimp only at hSw); go_simp; try with_reducible rfl) | (refine Or.inr ⟨by rfl, ?_⟩; rfl)
                        · assumption
                        try simp only [Act.put, List.setIfInBounds_toArray, List.set_cons_zero, List.set_cons_succ]
                        refine wpAnyH_take (i := 43) (oi := ?_) (v := ?_) ?_ ?_ ?_ ?_ ?_ ?_ ?_ ?_
                        rotate_left 2
                        · (simp only [List.getElem?_toArray, List.getElem?_cons_succ, List.getElem?_cons_zero]; exact rfl)
                        · kernel_rfl
                        · kernel_rfl
                        · kernel_rfl
                        · exact fun _ _ _ h => h
                        · first | (refine Or.inl ⟨by rfl, ?_⟩; intro w hSw; (try dsimp only at hSw); go_simp; try with_reducible rfl) | (refine Or.inr ⟨by rfl, ?_⟩; rfl)
                        · assumption
                        try simp only [Act.put, List.setIfInBounds_toArray, List.set_cons_zero, List.set_cons_succ]
                        refine wpAnyH_take (i := 44) (oi := ?_) (v := ?_) ?_ ?_ ?_ ?_ ?_ ?_ ?_ ?_
                        rotate_left 2
                        · (simp only [List.getElem?_toArray, List.getElem?_cons_succ, List.getElem?_cons_zero]; exact rfl)
                        · kernel_rfl
                        · kernel_rfl
                        · kernel_rfl
                        · exact fun _ _ _ h => h
                        · first | (refine Or.inl ⟨by rfl, ?_⟩; intro w hSw; (try dsimp only at hSw); go_simp; try with_reducible rfl) | (refine Or.inr ⟨by rfl, ?_⟩; rfl)
                        · assumption
                        try simp only [Act.put, List.setIfInBounds_toArray, List.set_cons_zero, List.set_cons_succ]
                        refine wpAnyH_done (by kernel_rfl) ?_ _
                        have HF : Hid (Below W.heap.size W _) := Lib.hid (hx.below (Le.refl _))
                        go_wp2_with fail
                        go_ret
                        exact ⟨by first | rfl | simp, HF.out⟩
                      exact AllReadyH.nil
                    exact AllReadyH.nil
                  exact AllReadyH.nil
                exact AllReadyH.nil
              exact AllReadyH.nil
            exact AllReadyH.nil
          refine AllReadyH.cons (o := ?_) ?_ (fun K hK => ?_) ?_
          rotate_left 1
          · (simp only [List.getElem?_toArray, List.getElem?_cons_succ, List.getElem?_cons_zero]; exact rfl)
          · go_simp
            (first | (go_at_call 21; (with_reducible refine (KR1.out _ _ hx).mono ?_); rintro e wx ⟨rfl, hx⟩; dsimp only) | (go_at_call 17; (with_reducible refine (KR2.out _ _ hx).mono ?_); rintro e wx ⟨rfl, hx⟩; dsimp only) | (go_at_call 18; (with_reducible refine (KB1.out _ _ hx).mono ?_); rintro e wx ⟨v5, rfl, A5, c5, L5, rfl, hr5, hx⟩; have hcv5 := HCX.out wx A5 c5 (hr5.src fun p hp => hx.own p (by simp [hp])); dsimp only) | (go_at_call 27; (with_reducible refine (KB2.out _ _ hx).mono ?_); rintro e wx ⟨v6, rfl, A6, c6, L6, rfl, hr6, hx⟩; have hcv6 := HCX.out wx A6 c6 (hr6.src fun p hp => hx.own p (by simp [hp])); have hcv5' := HCX.out wx A5 c5 (hr5.src fun p hp => hx.own p (by simp [hp])); dsimp only) | (go_at_call 25; (with_reducible refine (KX1.out _ _ hx).mono ?_); rintro e wx ⟨rfl, hx⟩; dsimp only) | (go_at_call 28; (with_reducible refine (KX2.out _ _ hx).mono ?_); rintro e wx ⟨rfl, hx⟩; dsimp only) | (go_at_call 23; (with_reducible refine (KC1.out _).mono ?_); rintro e wx ⟨rfl, rfl⟩; dsimp only) | (go_at_call 29; (with_reducible refine (KC2.out _).mono ?_); rintro e wx ⟨rfl, rfl⟩; dsimp only))
            refine hK.out _ _ ?_ (fun hHeld => ?_)
            · (try dsimp only) <;> (exact SX.out _ _ hx (by simp) (by simp))
            clear hK K
            try simp only [Act.put, List.setIfInBounds_toArray, List.set_cons_zero, List.set_cons_succ]
            refine wpAnyH_ready (rs := [8, 11]) (by kernel_rfl) (by simp) ?_
            refine AllReadyH.cons (o := ?_) ?_ (fun K hK => ?_) ?_
            rotate_left 1
            · (simp only [List.getElem?_toArray, List.getElem?_cons_succ, List.getElem?_cons_zero]; exact rfl)
            · go_simp
              refine hK.out _ _ ?_ (fun hHeld => ?_)
              · (try dsimp only) <;> (exact SX.out _ _ hx (by simp) (by simp))
              clear hK K
              try simp only [Act.put, List.setIfInBounds_toArray, List.set_cons_zero, List.set_cons_succ]
              refine wpAnyH_ready (rs := [11]) (by kernel_rfl) (by simp) ?_
              refine AllReadyH.cons (o := ?_) ?_ (fun K hK => ?_) ?_
              rotate_left 1
              · (simp only [List.getElem?_toArray, List.getElem?_cons_succ, List.getElem?_cons_zero]; exact rfl)
              · go_simp
                refine hK.out _ _ ?_ (fun hHeld => ?_)
                · (try dsimp only) <;> (exact SX.out _ _ hx (by simp) (by simp))
                clear hK K
                try simp only [Act.put, List.setIfInBounds_toArray, List.set_cons_zero, List.set_cons_succ]
                refine wpAnyH_take (i := 12) (oi := ?_) (v := ?_) ?_ ?_ ?_ ?_ ?_ ?_ ?_ ?_
                rotate_left 2
                · (simp only [List.getElem?_toArray, List.getElem?_cons_succ, List.getElem?_cons_zero]; exact rfl)
                · kernel_rfl
                · kernel_rfl
                · kernel_rfl
                · exact fun _ _ _ h => h
                · first | (refine Or.inl ⟨by rfl, ?_⟩; intro w hSw; (try dsimp only at hSw); go_simp; try with_reducible rfl) | (refine Or.inr ⟨by rfl, ?_⟩; rfl)
                · assumption
                try simp only [Act.put, List.setIfInBounds_toArray, List.set_cons_zero, List.set_cons_succ]
                refine wpAnyH_take (i := 13) (oi := ?_) (v := ?_) ?_ ?_ ?_ ?_ ?_ ?_ ?_ ?_
                rotate_left 2
                · (simp only [List.getElem?_toArray, List.getElem?_cons_succ, List.getElem?_cons_zero]; exact rfl)
                · kernel_rfl
                · kernel_rfl
                · kernel_rfl
                · exact fun _ _ _ h => h
                · first | (refine Or.inl ⟨by rfl, ?_⟩; intro w hSw; (try dsimp only at hSw); go_simp; try with_reducible rfl) | (refine Or.inr ⟨by rfl, ?_⟩; rfl)
                · assumption
                try simp only [Act.put, List.setIfInBounds_toArray, List.set_cons_zero, List.set_cons_succ]
                refine wpAnyH_take (i := 14) (oi := ?_) (v := ?_) ?_ ?_ ?_ ?_ ?_ ?_ ?_ ?_
                rotate_left 2
                · (simp only [List.getElem?_toArray, List.getElem?_cons_succ, List.getElem?_cons_zero]; exact rfl)
                · kernel_rfl
                · kernel_rfl
                · kernel_rfl
                · exact fun _ _ _ h => h
                · first | (refine Or.inl ⟨by rfl, ?_⟩; intro w hSw; (try dsimp only at hSw); go_simp; try with_reducible rfl) | (refine Or.inr ⟨by rfl, ?_⟩; rfl)
                · assumption
                try simp only [Act.put, List.setIfInBounds_toArray, List.set_cons_zero, List.set_cons_succ]
                refine wpAnyH_take (i := 15) (oi := ?_) (v := ?_) ?_ ?_ ?_ ?_ ?_ ?_ ?_ ?_
                rotate_left 2
                · (simp only [List.getElem?_toArray, List.getElem?_cons_succ, List.getElem?_cons_zero]; exact rfl)
                · kernel_rfl
                · kernel_rfl
                · kernel_rfl
                · exact fun _ _ _ h => h
                · first | (first | ((refine yieldsIf_load_mid ?_ 29 (.tmp 3) ?_ ba 0 ?_ m.cells.toList _ ?_ HUL.out ?_ HMA.out) <;> first | rfl | exact fun w h => h.1) | (refine Or.inl ⟨by rfl, ?_⟩; intro w hSw; obtain ⟨hS1, hS2, hS3⟩ := hSw; go_simp; try with_reducible rfl)) | (refine Or.inr ⟨by rfl, ?_⟩; rfl)
                · assumption
                try simp only [Act.put, List.setIfInBounds_toArray, List.set_cons_zero, List.set_cons_succ]
                refine wpAnyH_take (i := 17) (oi := ?_) (v := ?_) ?_ ?_ ?_ ?_ ?_ ?_ ?_ ?_
                rotate_left 2
                · (simp only [List.getElem?_toArray, List.getElem?_cons_succ, List.getElem?_cons_zero]; exact rfl)
                · kernel_rfl
                · kernel_rfl
                · kernel_rfl
                · exact fun _ _ _ h => h
                · first | (first | ((refine yieldsIf_load_mid ?_ 29 (.tmp 3) ?_ ba 0 ?_ m.cells.toList _ ?_ HUL.out ?_ HMA.out) <;> first | rfl | exact fun w h => h.1) | (refine Or.inl ⟨by rfl, ?_⟩; intro w hSw; obtain ⟨hS1, hS2, hS3⟩ := hSw; go_simp; try with_reducible rfl)) | (refine Or.inr ⟨by rfl, ?_⟩; rfl)
                · assumption
                try simp only [Act.put, List.setIfInBounds_toArray, List.set_cons_zero, List.set_cons_succ]
                refine wpAnyH_ready (rs := [16]) (by kernel_rfl) (by simp) ?_
                refine AllReadyH.cons (o := ?_) ?_ (fun K hK => ?_) ?_
                rotate_left 1
                · (simp only [List.getElem?_toArray, List.getElem?_cons_succ, List.getElem?_cons_zero]; exact rfl)
                · go_simp
                  (first | (go_at_call 21; (with_reducible refine (KR1.out _ _ hx).mono ?_); rintro e wx ⟨rfl, hx⟩; dsimp only) | (go_at_call 17; (with_reducible refine (KR2.out _ _ hx).mono ?_); rintro e wx ⟨rfl, hx⟩; dsimp only) | (go_at_call 18; (with_reducible refine (KB1.out _ _ hx).mono ?_); rintro e wx ⟨v5, rfl, A5, c5, L5, rfl, hr5, hx⟩; have hcv5 := HCX.out wx A5 c5 (hr5.src fun p hp => hx.own p (by simp [hp])); dsimp only) | (go_at_call 27; (with_reducible refine (KB2.out _ _ hx).mono ?_); rintro e wx ⟨v6, rfl, A6, c6, L6, rfl, hr6, hx⟩; have hcv6 := HCX.out wx A6 c6 (hr6.src fun p hp => hx.own p (by simp [hp])); have hcv5' := HCX.out wx A5 c5 (hr5.src fun p hp => hx.own p (by simp [hp])); dsimp only) | (go_at_call 25; (with_reducible refine (KX1.out _ _ hx).mono ?_); rintro e wx ⟨rfl, hx⟩; dsimp only) | (go_at_call 28; (with_reducible refine (KX2.out _ _ hx).mono ?_); rintro e wx ⟨rfl, hx⟩; dsimp only) | (go_at_call 23; (with_reducible refine (KC1.out _).mono ?_); rintro e wx ⟨rfl, rfl⟩; dsimp only) | (go_at_call 29; (with_reducible refine (KC2.out _).mono ?_); rintro e wx ⟨rfl, rfl⟩; dsimp only))
                  refine hK.out _ _ ?_ (fun hHeld => ?_)
                  · (try dsimp only) <;> (exact SX.out _ _ hx (by simp) (by simp))
                  clear hK K
                  try simp only [Act.put, List.setIfInBounds_toArray, List.set_cons_zero, List.set_cons_succ]
                  refine wpAnyH_ready (rs := [18]) (by kernel_rfl) (by simp) ?_
                  refine AllReadyH.cons (o := ?_) ?_ (fun K hK => ?_) ?_
                  rotate_left 1
                  · (simp only [List.getElem?_toArray, List.getElem?_cons_succ, List.getElem?_cons_zero]; exact rfl)
                  · go_simp
                    (first | (go_at_call 21; (with_reducible refine (KR1.out _ _ hx).mono ?_); rintro e wx ⟨rfl, hx⟩; dsimp only) | (go_at_call 17; (with_reducible refine (KR2.out _ _ hx).mono ?_); rintro e wx ⟨rfl, hx⟩; dsimp only) | (go_at_call 18; (with_reducible refine (KB1.out _ _ hx).mono ?_); rintro e wx ⟨v5, rfl, A5, c5, L5, rfl, hr5, hx⟩; have hcv5 := HCX.out wx A5 c5 (hr5.src fun p hp => hx.own p (by simp [hp])); dsimp only) | (go_at_call 27; (with_reducible refine (KB2.out _ _ hx).mono ?_); rintro e wx ⟨v6, rfl, A6, c6, L6, rfl, hr6, hx⟩; have hcv6 := HCX.out wx A6 c6 (hr6.src fun p hp => hx.own p (by simp [hp])); have hcv5' := HCX.out wx A5 c5 (hr5.src fun p hp => hx.own p (by simp [hp])); dsimp only) | (go_at_call 25; (with_reducible refine (KX1.out _ _ hx).mono ?_); rintro e wx ⟨rfl, hx⟩; dsimp only) | (go_at_call 28; (with_reducible refine (KX2.out _ _ hx).mono ?_); rintro e wx ⟨rfl, hx⟩; dsimp only) | (go_at_call 23; (with_reducible refine (KC1.out _).mono ?_); rintro e wx ⟨rfl, rfl⟩; dsimp only) | (go_at_call 29; (with_reducible refine (KC2.out _).mono ?_); rintro e wx ⟨rfl, rfl⟩; dsimp only))
                    refine hK.out _ _ ?_ (fun hHeld => ?_)
                    · (try dsimp only) <;> (exact SX.out _ _ hx (by simp) (by simp))
                    clear hK K
                    try simp only [Act.put, List.setIfInBounds_toArray, List.set_cons_zero, List.set_cons_succ]
                    refine wpAnyH_take (i := 19) (oi := ?_) (v := ?_) ?_ ?_ ?_ ?_ ?_ ?_ ?_ ?_
                    rotate_left 2
                    · (simp only [List.getElem?_toArray, List.getElem?_cons_succ, List.getElem?_cons_zero]; exact rfl)
                    · kernel_rfl
                    · kernel_rfl
                    · kernel_rfl
                    · exact fun _ _ _ h => h
                    · first | (refine Or.inl ⟨by rfl, ?_⟩; intro w hSw; (try dsimp only at hSw); go_simp; try with_reducible rfl) | (refine Or.inr ⟨by rfl, ?_⟩; rfl)
                    · assumption
                    try simp only [Act.put, List.setIfInBounds_toArray, List.set_cons_zero, List.set_cons_succ]
                    refine wpAnyH_take (i := 20) (oi := ?_) (v := ?_) ?_ ?_ ?_ ?_ ?_ ?_ ?_ ?_
                    rotate_left 2
                    · (simp only [List.getElem?_toArray, List.getElem?_cons_succ, List.getElem?_cons_zero]; exact rfl)
                    · kernel_rfl
                    · kernel_rfl
                    · kernel_rfl
                    · exact fun _ _ _ h => h
                    · first | (refine Or.inl ⟨by rfl, ?_⟩; intro w hSw; (try dsimp only at hSw); go_simp; try with_reducible rfl) | (refine Or.inr ⟨by rfl, ?_⟩; rfl)
                    · assumption
                    try simp only [Act.put, List.setIfInBounds_toArray, List.set_cons_zero, List.set_cons_succ]
                    refine wpAnyH_take (i := 21) (oi := ?_) (v := ?_) ?_ ?_ ?_ ?_ ?_ ?_ ?_ ?_
                    rotate_left 2
                    · (simp only [List.getElem?_toArray, List.getElem?_cons_succ, List.getElem?_cons_zero]; exact rfl)
                    · kernel_rfl
                    · kernel_rfl
                    · kernel_rfl
                    · exact fun _ _ _ h => h
                    · first | (refine Or.inl ⟨by rfl, ?_⟩; intro w hSw; (try dsimp only at hSw); go_simp; try with_reducible rfl) | (refine Or.inr ⟨by rfl, ?_⟩; rfl)
                    · assumption
                    try simp only [Act.put, List.setIfInBounds_toArray, List.set_cons_zero, List.set_cons_succ]
                    refine wpAnyH_take (i := 22) (oi := ?_) (v := ?_) ?_ ?_ ?_ ?_ ?_ ?_ ?_ ?_
                    rotate_left 2
                    · (simp only [List.getElem?_toArray, List.getElem?_cons_succ, List.getElem?_cons_zero]; exact rfl)
                    · kernel_rfl
                    · kernel_rfl
                    · kernel_rfl
                    · exact fun _ _ _ h => h
                    · first | (refine Or.inl ⟨by rfl, ?_⟩; intro w hSw; (try dsimp only at hSw); go_simp; try with_reducible rfl) | (refine Or.inr ⟨by rfl, ?_⟩; rfl)
                    · assumption
                    try simp only [Act.put, List.setIfInBounds_toArray, List.set_cons_zero, List.set_cons_succ]
                    refine wpAnyH_take (i := 23) (oi := ?_) (v := ?_) ?_ ?_ ?_ ?_ ?_ ?_ ?_ ?_
                    rotate_left 2
                    · (simp only [List.getElem?_toArray, List.getElem?_cons_succ, List.getElem?_cons_zero]; exact rfl)
                    · kernel_rfl
                    · kernel_rfl
                    · kernel_rfl
                    · exact fun _ _ _ h => h
                    · first | (refine Or.inl ⟨by rfl, ?_⟩; intro w hSw; (try dsimp only at hSw); go_simp; try with_reducible rfl) | (refine Or.inr ⟨by rfl, ?_⟩; rfl)
                    · assumption
                    try simp only [Act.put, List.setIfInBounds_toArray, List.set_cons_zero, List.set_cons_succ]
                    refine wpAnyH_take (i := 24) (oi := ?_) (v := ?_) ?_ ?_ ?_ ?_ ?_ ?_ ?_ ?_
                    rotate_left 2
                    · (simp only [List.getElem?_toArray, List.getElem?_cons_succ, List.getElem?_cons_zero]; exact rfl)
                    · kernel_rfl
                    · kernel_rfl
                    · kernel_rfl
                    · exact fun _ _ _ h => h
                    · first | (refine Or.inl ⟨by rfl, ?_⟩; intro w hSw; (try dsimp only at hSw); go_simp; try with_reducible rfl) | (refine Or.inr ⟨by rfl, ?_⟩; rfl)
                    · assumption
                    try simp only [Act.put, List.setIfInBounds_toArray, List.set_cons_zero, List.set_cons_succ]
                    refine wpAnyH_take (i := 25) (oi := ?_) (v := ?_) ?_ ?_ ?_ ?_ ?_ ?_ ?_ ?_
                    rotate_left 2
                    · (simp only [List.getElem?_toArray, List.getElem?_cons_succ, List.getElem?_cons_zero]; exact rfl)
                    · kernel_rfl
                    · kernel_rfl
                    · kernel_rfl
                    · exact fun _ _ _ h => h
                    · first | (refine Or.inl ⟨by rfl, ?_⟩; intro w hSw; (try dsimp only at hSw); go_simp; try with_reducible rfl) | (refine Or.inr ⟨by rfl, ?_⟩; rfl)
                    · assumption
                    try simp only [Act.put, List.setIfInBounds_toArray, List.set_cons_zero, List.set_cons_succ]
                    refine wpAnyH_take (i := 26) (oi := ?_) (v := ?_) ?_ ?_ ?_ ?_ ?_ ?_ ?_ ?_
                    rotate_left 2
                    · (simp only [List.getElem?_toArray, List.getElem?_cons_succ, List.getElem?_cons_zero]; exact rfl)
                    · kernel_rfl
                    · kernel_rfl
                    · kernel_rfl
                    · exact fun _ _ _ h => h
                    · first | (refine Or.inl ⟨by rfl, ?_⟩; intro w hSw; (try dsimp only at hSw); go_simp; try with_reducible rfl) | (refine Or.inr ⟨by rfl, ?_⟩; rfl)
                    · assumption
                    try simp only [Act.put, List.setIfInBounds_toArray, List.set_cons_zero, List.set_cons_succ]
                    refine wpAnyH_take (i := 27) (oi := ?_) (v := ?_) ?_ ?_ ?_ ?_ ?_ ?_ ?_ ?_
                    rotate_left 2
                    · (simp only [List.getElem?_toArray, List.getElem?_cons_succ, List.getElem?_cons_zero]; exact rfl)
                    · kernel_rfl
                    · kernel_rfl
                    · kernel_rfl
                    · exact fun _ _ _ h => h
                    · first | (refine Or.inl ⟨by rfl, ?_⟩; intro w hSw; (try dsimp only at hSw); go_simp; try with_reducible rfl) | (refine Or.inr ⟨by rfl, ?_⟩; rfl)
                    · assumption
                    try simp only [Act.put, List.setIfInBounds_toArray, List.set_cons_zero, List.set_cons_succ]
                    refine wpAnyH_take (i := 28) (oi := ?_) (v := ?_) ?_ ?_ ?_ ?_ ?_ ?_ ?_ ?_
                    rotate_left 2
                    · (simp only [List.getElem?_toArray, List.getElem?_cons_succ, List.getElem?_cons_zero]; exact rfl)
                    · kernel_rfl
                    · kernel_rfl
                    · kernel_rfl
                    · exact fun _ _ _ h => h
                    · first | (refine Or.inl ⟨by rfl, ?_⟩; intro w hSw; (try dsimp only at hSw); go_simp; try with_reducible rfl) | (refine Or.inr ⟨by rfl, ?_⟩; rfl)
                    · assumption
                    try simp only [Act.put, List.setIfInBounds_toArray, List.set_cons_zero, List.set_cons_succ]
                    refine wpAnyH_take (i := 29) (oi := ?_) (v := ?_) ?_ ?_ ?_ ?_ ?_ ?_ ?_ ?_
                    rotate_left 2
                    · (simp only [List.getElem?_toArray, List.getElem?_cons_succ, List.getElem?_cons_zero]; exact rfl)
                    · kernel_rfl
                    · kernel_rfl
                    · kernel_rfl
                    · exact fun _ _ _ h => h
                    · first | (refine Or.inl ⟨by rfl, ?_⟩; intro w hSw; (try dsimp only at hSw); go_simp; try with_reducible rfl) | (refine Or.inr ⟨by rfl, ?_⟩; rfl)
                    · assumption
                    try simp only [Act.put, List.setIfInBounds_toArray, List.set_cons_zero, List.set_cons_succ]
                    refine wpAnyH_take (i := 30) (oi := ?_) (v := ?_) ?_ ?_ ?_ ?_ ?_ ?_ ?_ ?_
                    rotate_left 2
                    · (simp only [List.getElem?_toArray, List.getElem?_cons_succ, List.getElem?_cons_zero]; exact rfl)
                    · kernel_rfl
                    · kernel_rfl
                    · kernel_rfl
                    · exact fun _ _ _ h => h
                    · first | (refine Or.inl ⟨by rfl, ?_⟩; intro w hSw; (try dsimp only at hSw); go_simp; try with_reducible rfl) | (refine Or.inr ⟨by rfl, ?_⟩; rfl)
                    · assumption
                    try simp only [Act.put, List.setIfInBounds_toArray, List.set_cons_zero, List.set_cons_succ]
                    refine wpAnyH_take (i := 31) (oi := ?_) (v := ?_) ?_ ?_ ?_ ?_ ?_ ?_ ?_ ?_
                    rotate_left 2
                    · (simp only [List.getElem?_toArray, List.getElem?_cons_succ, List.getElem?_cons_zero]; exact rfl)
                    · kernel_rfl
                    · kernel_rfl
                    · kernel_rfl
                    · exact fun _ _ _ h => h
                    · first | (refine Or.inl ⟨by rfl, ?_⟩; intro w hSw; (try dsimp only at hSw); go_simp; try with_reducible rfl) | (refine Or.inr ⟨by rfl, ?_⟩; rfl)
                    · assumption
                    try simp only [Act.put, List.setIfInBounds_toArray, List.set_cons_zero, List.set_cons_succ]
                    refine wpAnyH_take (i := 32) (oi := ?_) (v := ?_) ?_ ?_ ?_ ?_ ?_ ?_ ?_ ?_
                    rotate_left 2
                    · (simp only [List.getElem?_toArray, List.getElem?_cons_succ, List.getElem?_cons_zero]; exact rfl)
                    · kernel_rfl
                    · kernel_rfl
                    · kernel_rfl
                    · exact fun _ _ _ h => h
                    · first | (refine Or.inl ⟨by rfl, ?_⟩; intro w hSw; (try dsimp only at hSw); go_simp; try with_reducible rfl) | (refine Or.inr ⟨by rfl, ?_⟩; rfl)
                    · assumption
                    try simp only [Act.put, List.setIfInBounds_toArray, List.set_cons_zero, List.set_cons_succ]
                    refine wpAnyH_take (i := 33) (oi := ?_) (v := ?_) ?_ ?_ ?_ ?_ ?_ ?_ ?_ ?_
                    rotate_left 2
                    · (simp only [List.getElem?_toArray, List.getElem?_cons_succ, List.getElem?_cons_zero]; exact rfl)
                    · kernel_rfl
                    · kernel_rfl
                    · kernel_rfl
                    · exact fun _ _ _ h => h
                    · first | (first | ((refine yieldsIf_load_mid ?_ 29 (.tmp 3) ?_ ba 0 ?_ m.cells.toList _ ?_ HUL.out ?_ HMA.out) <;> first | rfl | exact fun w h => h.1) | (refine Or.inl ⟨by rfl, ?_⟩; intro w hSw; obtain ⟨hS1, hS2, hS3⟩ := hSw; go_simp; try with_reducible rfl)) | (refine Or.inr ⟨by rfl, ?_⟩; rfl)
                    · assumption
                    try simp only [Act.put, List.setIfInBounds_toArray, List.set_cons_zero, List.set_cons_succ]
                    refine wpAnyH_take (i := 34) (oi := ?_) (v := ?_) ?_ ?_ ?_ ?_ ?_ ?_ ?_ ?_
                    rotate_left 2
                    · (simp only [List.getElem?_toArray, List.getElem?_cons_succ, List.getElem?_cons_zero]; exact rfl)
                    · kernel_rfl
                    · kernel_rfl
                    · kernel_rfl
                    · exact fun _ _ _ h => h
                    · first | (refine Or.inl ⟨by rfl, ?_⟩; intro w hSw; (try dsimp only at hSw); go_simp; try with_reducible rfl) | (refine Or.inr ⟨by rfl, ?_⟩; rfl)
                    · assumption
                    try simp only [Act.put, List.setIfInBounds_toArray, List.set_cons_zero, List.set_cons_succ]
                    refine wpAnyH_take (i := 35) (oi := ?_) (v := ?_) ?_ ?_ ?_ ?_ ?_ ?_ ?_ ?_
                    rotate_left 2
                    · (simp only [List.getElem?_toArray, List.getElem?_cons_succ, List.getElem?_cons_zero]; exact rfl)
                    · kernel_rfl
                    · kernel_rfl
                    · kernel_rfl
                    · exact fun _ _ _ h => h
                    · first | (first | ((refine yieldsIf_load_mid ?_ 29 (.tmp 3) ?_ ba 0 ?_ m.cells.toList _ ?_ HUL.out ?_ HMA.out) <;> first | rfl | exact fun w h => h.1) | (refine Or.inl ⟨by rfl, ?_⟩; intro w hSw; obtain ⟨hS1, hS2, hS3⟩ := hSw; go_simp; try with_reducible rfl)) | (refine Or.inr ⟨by rfl, ?_⟩; rfl)
                    · assumption
                    try simp only [Act.put, List.setIfInBounds_toArray, List.set_cons_zero, List.set_cons_succ]
                    refine wpAnyH_take (i := 37) (oi := ?_) (v := ?_) ?_ ?_ ?_ ?_ ?_ ?_ ?_ ?_
                    rotate_left 2
                    · (simp only [List.getElem?_toArray, List.getElem?_cons_succ, List.getElem?_cons_zero]; exact rfl)
                    · kernel_rfl
                    · kernel_rfl
                    · kernel_rfl
                    · exact fun _ _ _ h => h
                    · first | (refine Or.inl ⟨by rfl, ?_⟩; intro w hSw; (try dsimp only at hSw); go_simp; try with_reducible rfl) | (refine Or.inr ⟨by rfl, ?_⟩; rfl)
                    · assumption
                    try simp only [Act.put, List.setIfInBounds_toArray, List.set_cons_zero, List.set_cons_succ]
                    refine wpAnyH_take (i := 38) (oi := ?_) (v := ?_) ?_ ?_ ?_ ?_ ?_ ?_ ?_ ?_
                    rotate_left 2
                    · (simp only [List.getElem?_toArray, List.getElem?_cons_succ, List.getElem?_cons_zero]; exact rfl)
                    · kernel_rfl
                    · kernel_rfl
                    · kernel_rfl
                    · exact fun _ _ _ h => h
                    · first | (first | ((refine yieldsIf_load_mid ?_ 29 (.tmp 3) ?_ ba 0 ?_ m.cells.toList _ ?_ HUL.out ?_ HMA.out) <;> first | rfl | exact fun w h => h.1) | (refine Or.inl ⟨by rfl, ?_⟩; intro w hSw; obtain ⟨hS1, hS2, hS3⟩ := hSw; go_simp; try with_reducible rfl)) | (refine Or.inr ⟨by rfl, ?_⟩; rfl)
                    · assumption
                    try simp only [Act.put, List.setIfInBounds_toArray, List.set_cons_zero, List.set_cons_succ]
                    refine wpAnyH_take (i := 39) (oi := ?_) (v := ?_) ?_ ?_ ?_ ?_ ?_ ?_ ?_ ?_
                    rotate_left 2
                    · (simp only [List.getElem?_toArray, List.getElem?_cons_succ, List.getElem?_cons_zero]; exact rfl)
                    · kernel_rfl
                    · kernel_rfl
                    · kernel_rfl
                    · exact fun _ _ _ h => h
                    · first | (refine Or.inl ⟨by rfl, ?_⟩; intro w hSw; (try dsimp only at hSw); go_simp; try with_reducible rfl) | (refine Or.inr ⟨by rfl, ?_⟩; rfl)
                    · assumption
                    try simp only [Act.put, List.setIfInBounds_toArray, List.set_cons_zero, List.set_cons_succ]
                    refine wpAnyH_take (i := 40) (oi := ?_) (v := ?_) ?_ ?_ ?_ ?_ ?_ ?_ ?_ ?_
                    rotate_left 2
                    · (simp only [List.getElem?_toArray, List.getElem?_cons_succ, List.getElem?_cons_zero]; exact rfl)
                    · kernel_rfl
                    · kernel_rfl
                    · kernel_rfl
                    · exact fun _ _ _ h => h
                    · first | (first | ((refine yieldsIf_load_mid ?_ 29 (.tmp 3) ?_ ba 0 ?_ m.cells.toList _ ?_ HUL.out ?_ HMA.out) <;> first | rfl | exact fun w h => h.1) | (refine Or.inl ⟨by rfl, ?_⟩; intro w hSw; obtain ⟨hS1, hS2, hS3⟩ := hSw; go_simp; try with_reducible rfl)) | (refine Or.inr ⟨by rfl, ?_⟩; rfl)
                    · assumption
                    try simp only [Act.put, List.setIfInBounds_toArray, List.set_cons_zero, List.set_cons_succ]
                    refine wpAnyH_ready (rs := [36]) (by kernel_rfl) (by simp) ?_
                    refine AllReadyH.cons (o := ?_) ?_ (fun K hK => ?_) ?_
                    rotate_left 1
                    · (simp only [List.getElem?_toArray, List.getElem?_cons_succ, List.getElem?_cons_zero]; exact rfl)
                    · go_simp
                      (first | (go_at_call 21; (with_reducible refine (KR1.out _ _ hx).mono ?_); rintro e wx ⟨rfl, hx⟩; dsimp only) | (go_at_call 17; (with_reducible refine (KR2.out _ _ hx).mono ?_); rintro e wx ⟨rfl, hx⟩; dsimp only) | (go_at_call 18; (with_reducible refine (KB1.out _ _ hx).mono ?_); rintro e wx ⟨v5, rfl, A5, c5, L5, rfl, hr5, hx⟩; have hcv5 := HCX.out wx A5 c5 (hr5.src fun p hp => hx.own p (by simp [hp])); dsimp only) | (go_at_call 27; (with_reducible refine (KB2.out _ _ hx).mono ?_); rintro e wx ⟨v6, rfl, A6, c6, L6, rfl, hr6, hx⟩; have hcv6 := HCX.out wx A6 c6 (hr6.src fun p hp => hx.own p (by simp [hp])); have hcv5' := HCX.out wx A5 c5 (hr5.src fun p hp => hx.own p (by simp [hp])); dsimp only) | (go_at_call 25; (with_reducible refine (KX1.out _ _ hx).mono ?_); rintro e wx ⟨rfl, hx⟩; dsimp only) | (go_at_call 28; (with_reducible refine (KX2.out _ _ hx).mono ?_); rintro e wx ⟨rfl, hx⟩; dsimp only) | (go_at_call 23; (with_reducible refine (KC1.out _).mono ?_); rintro e wx ⟨rfl, rfl⟩; dsimp only) | (go_at_call 29; (with_reducible refine (KC2.out _).mono ?_); rintro e wx ⟨rfl, rfl⟩; dsimp only))
                      refine hK.out _ _ ?_ (fun hHeld => ?_)
                      · (try dsimp only) <;> (exact SX.out _ _ hx (by simp) (by simp))
                      clear hK K
                      try simp only [Act.put, List.setIfInBounds_toArray, List.set_cons_zero, List.set_cons_succ]
                      refine wpAnyH_ready (rs := [41]) (by kernel_rfl) (by simp) ?_
                      refine AllReadyH.cons (o := ?_) ?_ (fun K hK => ?_) ?_
                      rotate_left 1
                      · (simp only [List.getElem?_toArray, List.getElem?_cons_succ, List.getElem?_cons_zero]; exact rfl)
                      · go_simp
                        (first | (go_at_call 21; (with_reducible refine (KR1.out _ _ hx).mono ?_); rintro e wx ⟨rfl, hx⟩; dsimp only) | (go_at_call 17; (with_reducible refine (KR2.out _ _ hx).mono ?_); rintro e wx ⟨rfl, hx⟩; dsimp only) | (go_at_call 18; (with_reducible refine (KB1.out _ _ hx).mono ?_); rintro e wx ⟨v5, rfl, A5, c5, L5, rfl, hr5, hx⟩; have hcv5 := HCX.out wx A5 c5 (hr5.src fun p hp => hx.own p (by simp [hp])); dsimp only) | (go_at_call 27; (with_reducible refine (KB2.out _ _ hx).mono ?_); rintro e wx ⟨v6, rfl, A6, c6, L6, rfl, hr6, hx⟩; have hcv6 := HCX.out wx A6 c6 (hr6.src fun p hp => hx.own p (by simp [hp])); have hcv5' := HCX.out wx A5 c5 (hr5.src fun p hp => hx.own p (by simp [hp])); dsimp only) | (go_at_call 25; (with_reducible refine (KX1.out _ _ hx).mono ?_); rintro e wx ⟨rfl, hx⟩; dsimp only) | (go_at_call 28; (with_reducible refine (KX2.out _ _ hx).mono ?_); rintro e wx ⟨rfl, hx⟩; dsimp only) | (go_at_call 23; (with_reducible refine (KC1.out _).mono ?_); rintro e wx ⟨rfl, rfl⟩; dsimp only) | (go_at_call 29; (with_reducible refine (KC2.out _).mono ?_); rintro e wx ⟨rfl, rfl⟩; dsimp only))
                        refine hK.out _ _ ?_ (fun hHeld => ?_)
                        · (try dsimp only) <;> (exact SX.out _ _ hx (by simp) (by simp))
                        clear hK K
                        try simp only [Act.put, List.setIfInBounds_toArray, List.set_cons_zero, List.set_cons_succ]
                        refine wpAnyH_take (i := 42) (oi := ?_) (v := ?_) ?_ ?_ ?_ ?_ ?_ ?_ ?_ ?_
                        rotate_left 2
                        · (simp only [List.getElem?_toArray, List.getElem?_cons_succ, List.getElem?_cons_zero]; exact rfl)
                        · kernel_rfl
                        · kernel_rfl
                        · kernel_rfl
                        · exact fun _ _ _ h => h
                        · first | (refine Or.inl ⟨by rfl, ?_⟩; intro w hSw; (try dsimp only at hSw); go_simp; try with_reducible rfl) | (refine Or.inr ⟨by rfl, ?_⟩; rfl)
                        · assumption
                        try simp only [Act.put, List.setIfInBounds_toArray, List.set_cons_zero, List.set_cons_succ]
                        refine wpAnyH_take (i := 43) (oi := ?_) (v := ?_) ?_ ?_ ?_ ?_ ?_ ?_ ?_ ?_
                        rotate_left 2
                        · (simp only [List.getElem?_toArray, List.getElem?_cons_succ, List.getElem?_cons_zero]; exact rfl)
                        · kernel_rfl
                        · kernel_rfl
                        · kernel_rfl
                        · exact fun _ _ _ h => h
                        · first | (refine Or.inl ⟨by rfl, ?_⟩; intro w hSw; (try dsimp only at hSw); go_simp; try with_reducible rfl) | (refine Or.inr ⟨by rfl, ?_⟩; rfl)
                        · assumption
                        try simp only [Act.put, List.setIfInBounds_toArray, List.set_cons_zero, List.set_cons_succ]
                        refine wpAnyH_take (i := 44) (oi := ?_) (v := ?_) ?_ ?_ ?_ ?_ ?_ ?_ ?_ ?_
                        rotate_left 2
                        · (simp only [List.getElem?_toArray, List.getElem?_cons_succ, List.getElem?_cons_zero]; exact rfl)
                        · kernel_rfl
                        · kernel_rfl
                        · kernel_rfl
                        · exact fun _ _ _ h => h
                        · first | (refine Or.inl ⟨by rfl, ?_⟩; intro w hSw; (try dsimp only at hSw); go_simp; try with_reducible rfl) | (refine Or.inr ⟨by rfl, ?_⟩; rfl)
                        · assumption
                        try simp only [Act.put, List.setIfInBounds_toArray, List.set_cons_zero, List.set_cons_succ]
                        refine wpAnyH_done (by kernel_rfl) ?_ _
                        have HF : Hid (Below W.heap.size W _) := Lib.hid (hx.below (Le.refl _))
                        go_wp2_with fail
                        go_ret
                        exact ⟨by first | rfl | simp, HF.out⟩
                      exact AllReadyH.nil
                    exact AllReadyH.nil
                  exact AllReadyH.nil
                exact AllReadyH.nil
              exact AllReadyH.nil
            refine AllReadyH.cons (o := ?_) ?_ (fun K hK => ?_) ?_
            rotate_left 1
            · (simp only [List.getElem?_toArray, List.getElem?_cons_succ, List.getElem?_cons_zero]; exact rfl)
            · go_simp
              refine hK.out _ _ ?_ (fun hHeld => ?_)
              · (try dsimp only) <;> (exact SX.out _ _ hx (by simp) (by simp))
              clear hK K
              try simp only [Act.put, List.setIfInBounds_toArray, List.set_cons_zero, List.set_cons_succ]
              refine wpAnyH_ready (rs := [8]) (by kernel_rfl) (by simp) ?_
              refine AllReadyH.cons (o := ?_) ?_ (fun K hK => ?_) ?_
              rotate_left 1
              · (simp only [List.getElem?_toArray, List.getElem?_cons_succ, List.getElem?_cons_zero]; exact rfl)
              · go_simp
                refine hK.out _ _ ?_ (fun hHeld => ?_)
                · (try dsimp only) <;> (exact SX.out _ _ hx (by simp) (by simp))
                clear hK K
                try simp only [Act.put, List.setIfInBounds_toArray, List.set_cons_zero, List.set_cons_succ]
                refine wpAnyH_take (i := 12) (oi := ?_) (v := ?_) ?_ ?_ ?_ ?_ ?_ ?_ ?_ ?_
                rotate_left 2
                · (simp only [List.getElem?_toArray, List.getElem?_cons_succ, List.getElem?_cons_zero]; exact rfl)
                · kernel_rfl
                · kernel_rfl
                · kernel_rfl
                · exact fun _ _ _ h => h
                · first | (refine Or.inl ⟨by rfl, ?_⟩; intro w hSw; (try dsimp only at hSw); go_simp; try with_reducible rfl) | (refine Or.inr ⟨by rfl, ?_⟩; rfl)
                · assumption
                try simp only [Act.put, List.setIfInBounds_toArray, List.set_cons_zero, List.set_cons_succ]
                refine wpAnyH_take (i := 13) (oi := ?_) (v := ?_) ?_ ?_ ?_ ?_ ?_ ?_ ?_ ?_
                rotate_left 2
                · (simp only [List.getElem?_toArray, List.getElem?_cons_succ, List.getElem?_cons_zero]; exact rfl)
                · kernel_rfl
                · kernel_rfl
                · kernel_rfl
                · exact fun _ _ _ h => h
                · first | (refine Or.inl ⟨by rfl, ?_⟩; intro w hSw; (try dsimp only at hSw); go_simp; try with_reducible rfl) | (refine Or.inr ⟨by rfl, ?_⟩; rfl)
                · assumption
                try simp only [Act.put, List.setIfInBounds_toArray, List.set_cons_zero, List.set_cons_succ]
                refine wpAnyH_take (i := 14) (oi := ?_) (v := ?_) ?_ ?_ ?_ ?_ ?_ ?_ ?_ ?_
                rotate_left 2
                · (simp only [List.getElem?_toArray, List.getElem?_cons_succ, List.getElem?_cons_zero]; exact rfl)
                · kernel_rfl
                · kernel_rfl
                · kernel_rfl
                · exact fun _ _ _ h => h
                · first | (refine Or.inl ⟨by rfl, ?_⟩; intro w hSw; (try dsimp only at hSw); go_simp; try with_reducible rfl) | (refine Or.inr ⟨by rfl, ?_⟩; rfl)
                · assumption
                try simp only [Act.put, List.setIfInBounds_toArray, List.set_cons_zero, List.set_cons_succ]
                refine wpAnyH_take (i := 15) (oi := ?_) (v := ?_) ?_ ?_ ?_ ?_ ?_ ?_ ?_ ?_
                rotate_left 2
                · (simp only [List.getElem?_toArray, List.getElem?_cons_succ, List.getElem?_cons_zero]; exact rfl)
                · kernel_rfl
                · kernel_rfl
                · kernel_rfl
                · exact fun _ _ _ h => h
                · first | (first | ((refine yieldsIf_load_mid ?_ 29 (.tmp 3) ?_ ba 0 ?_ m.cells.toList _ ?_ HUL.out ?_ HMA.out) <;> first | rfl | exact fun w h => h.1) | (refine Or.inl ⟨by rfl, ?_⟩; intro w hSw; obtain ⟨hS1, hS2, hS3⟩ := hSw; go_simp; try with_reducible rfl)) | (refine Or.inr ⟨by rfl, ?_⟩; rfl)
                · assumption
                try simp only [Act.put, List.setIfInBounds_toArray, List.set_cons_zero, List.set_cons_succ]
                refine wpAnyH_take (i := 17) (oi := ?_) (v := ?_) ?_ ?_ ?_ ?_ ?_ ?_ ?_ ?_
                rotate_left 2
                · (simp only [List.getElem?_toArray, List.getElem?_cons_succ, List.getElem?_cons_zero]; exact rfl)
                · kernel_rfl
                · kernel_rfl
                · kernel_rfl
                · exact fun _ _ _ h => h
                · first | (first | ((refine yieldsIf_load_mid ?_ 29 (.tmp 3) ?_ ba 0 ?_ m.cells.toList _ ?_ HUL.out ?_ HMA.out) <;> first | rfl | exact fun w h => h.1) | (refine Or.inl ⟨by rfl, ?_⟩; intro w hSw; obtain ⟨hS1, hS2, hS3⟩ := hSw; go_simp; try with_reducible rfl)) | (refine Or.inr ⟨by rfl, ?_⟩; rfl)
                · assumption
                try simp only [Act.put, List.setIfInBounds_toArray, List.set_cons_zero, List.set_cons_succ]
                refine wpAnyH_ready (rs := [16]) (by kernel_rfl) (by simp) ?_
                refine AllReadyH.cons (o := ?_) ?_ (fun K hK => ?_) ?_
                rotate_left 1
                · (simp only [List.getElem?_toArray, List.getElem?_cons_succ, List.getElem?_cons_zero]; exact rfl)
                · go_simp
                  (first | (go_at_call 21; (with_reducible refine (KR1.out _ _ hx).mono ?_); rintro e wx ⟨rfl, hx⟩; dsimp only) | (go_at_call 17; (with_reducible refine (KR2.out _ _ hx).mono ?_); rintro e wx ⟨rfl, hx⟩; dsimp only) | (go_at_call 18; (with_reducible refine (KB1.out _ _ hx).mono ?_); rintro e wx ⟨v5, rfl, A5, c5, L5, rfl, hr5, hx⟩; have hcv5 := HCX.out wx A5 c5 (hr5.src fun p hp => hx.own p (by simp [hp])); dsimp only) | (go_at_call 27; (with_reducible refine (KB2.out _ _ hx).mono ?_); rintro e wx ⟨v6, rfl, A6, c6, L6, rfl, hr6, hx⟩; have hcv6 := HCX.out wx A6 c6 (hr6.src fun p hp => hx.own p (by simp [hp])); have hcv5' := HCX.out wx A5 c5 (hr5.src fun p hp => hx.own p (by simp [hp])); dsimp only) | (go_at_call 25; (with_reducible refine (KX1.out _ _ hx).mono ?_); rintro e wx ⟨rfl, hx⟩; dsimp only) | (go_at_call 28; (with_reducible refine (KX2.out _ _ hx).mono ?_); rintro e wx ⟨rfl, hx⟩; dsimp only) | (go_at_call 23; (with_reducible refine (KC1.out _).mono ?_); rintro e wx ⟨rfl, rfl⟩; dsimp only) | (go_at_call 29; (with_reducible refine (KC2.out _).mono ?_); rintro e wx ⟨rfl, rfl⟩; dsimp only))
                  refine hK.out _ _ ?_ (fun hHeld => ?_)
                  · (try dsimp only) <;> (exact SX.out _ _ hx (by simp) (by simp))
                  clear hK K
                  try simp only [Act.put, List.setIfInBounds_toArray, List.set_cons_zero, List.set_cons_succ]
                  refine wpAnyH_ready (rs := [18]) (by kernel_rfl) (by simp) ?_
                  refine AllReadyH.cons (o := ?_) ?_ (fun K hK => ?_) ?_
                  rotate_left 1
                  · (simp only [List.getElem?_toArray, List.getElem?_cons_succ, List.getElem?_cons_zero]; exact rfl)
                  · go_simp
                    (first | (go_at_call 21; (with_reducible refine (KR1.out _ _ hx).mono ?_); rintro e wx ⟨rfl, hx⟩; dsimp only) | (go_at_call 17; (with_reducible refine (KR2.out _ _ hx).mono ?_); rintro e wx ⟨rfl, hx⟩; dsimp only) | (go_at_call 18; (with_reducible refine (KB1.out _ _ hx).mono ?_); rintro e wx ⟨v5, rfl, A5, c5, L5, rfl, hr5, hx⟩; have hcv5 := HCX.out wx A5 c5 (hr5.src fun p hp => hx.own p (by simp [hp])); dsimp only) | (go_at_call 27; (with_reducible refine (KB2.out _ _ hx).mono ?_); rintro e wx ⟨v6, rfl, A6, c6, L6, rfl, hr6, hx⟩; have hcv6 := HCX.out wx A6 c6 (hr6.src fun p hp => hx.own p (by simp [hp])); have hcv5' := HCX.out wx A5 c5 (hr5.src fun p hp => hx.own p (by simp [hp])); dsimp only) | (go_at_call 25; (with_reducible refine (KX1.out _ _ hx).mono ?_); rintro e wx ⟨rfl, hx⟩; dsimp only) | (go_at_call 28; (with_reducible refine (KX2.out _ _ hx).mono ?_); rintro e wx ⟨rfl, hx⟩; dsimp only) | (go_at_call 23; (with_reducible refine (KC1.out _).mono ?_); rintro e wx ⟨rfl, rfl⟩; dsimp only) | (go_at_call 29; (with_reducible refine (KC2.out _).mono ?_); rintro e wx ⟨rfl, rfl⟩; dsimp only))
                    refine hK.out _ _ ?_ (fun hHeld => ?_)
                    · (try dsimp only) <;> (exact SX.out _ _ hx (by simp) (by simp))
                    clear hK K
                    try simp only [Act.put, List.setIfInBounds_toArray, List.set_cons_zero, List.set_cons_succ]
                    refine wpAnyH_take (i := 19) (oi := ?_) (v := ?_) ?_ ?_ ?_ ?_ ?_ ?_ ?_ ?_
                    rotate_left 2
                    · (simp only [List.getElem?_toArray, List.getElem?_cons_succ, List.getElem?_cons_zero]; exact rfl)
                    · kernel_rfl
                    · kernel_rfl
                    · kernel_rfl
                    · exact fun _ _ _ h => h
                    · first | (refine Or.inl ⟨by rfl, ?_⟩; intro w hSw; (try dsimp only at hSw); go_simp; try with_reducible rfl) | (refine Or.inr ⟨by rfl, ?_⟩; rfl)
                    · assumption
                    try simp only [Act.put, List.setIfInBounds_toArray, List.set_cons_zero, List.set_cons_succ]
                    refine wpAnyH_take (i := 20) (oi := ?_) (v := ?_) ?_ ?_ ?_ ?_ ?_ ?_ ?_ ?_
                    rotate_left 2
                    · (simp only [List.getElem?_toArray, List.getElem?_cons_succ, List.getElem?_cons_zero]; exact rfl)
                    · kernel_rfl
                    · kernel_rfl
                    · kernel_rfl
                    · exact fun _ _ _ h => h
                    · first | (refine Or.inl ⟨by rfl, ?_⟩; intro w hSw; (try dsimp only at hSw); go_simp; try with_reducible rfl) | (refine Or.inr ⟨by rfl, ?_⟩; rfl)
                    · assumption
                    try simp only [Act.put, List.setIfInBounds_toArray, List.set_cons_zero, List.set_cons_succ]
                    refine wpAnyH_take (i := 21) (oi := ?_) (v := ?_) ?_ ?_ ?_ ?_ ?_ ?_ ?_ ?_
                    rotate_left 2
                    · (simp only [List.getElem?_toArray, List.getElem?_cons_succ, List.getElem?_cons_zero]; exact rfl)
                    · kernel_rfl
                    · kernel_rfl
                    · kernel_rfl
                    · exact fun _ _ _ h => h
                    · first | (refine Or.inl ⟨by rfl, ?_⟩; intro w hSw; (try dsimp only at hSw); go_simp; try with_reducible rfl) | (refine Or.inr ⟨by rfl, ?_⟩; rfl)
                    · assumption
                    try simp only [Act.put, List.setIfInBounds_toArray, List.set_cons_zero, List.set_cons_succ]
                    refine wpAnyH_take (i := 22) (oi := ?_) (v := ?_) ?_ ?_ ?_ ?_ ?_ ?_ ?_ ?_
                    rotate_left 2
                    · (simp only [List.getElem?_toArray, List.getElem?_cons_succ, List.getElem?_cons_zero]; exact rfl)
                    · kernel_rfl
                    · kernel_rfl
                    · kernel_rfl
                    · exact fun _ _ _ h => h
                    · first | (refine Or.inl ⟨by rfl, ?_⟩; intro w hSw; (try dsimp only at hSw); go_simp; try with_reducible rfl) | (refine Or.inr ⟨by rfl, ?_⟩; rfl)
                    · assumption
                    try simp only [Act.put, List.setIfInBounds_toArray, List.set_cons_zero, List.set_cons_succ]
                    refine wpAnyH_take (i := 23) (oi := ?_) (v := ?_) ?_ ?_ ?_ ?_ ?_ ?_ ?_ ?_
                    rotate_left 2
                    · (simp only [List.getElem?_toArray, List.getElem?_cons_succ, List.getElem?_cons_zero]; exact rfl)
                    · kernel_rfl
                    · kernel_rfl
                    · kernel_rfl
                    · exact fun _ _ _ h => h
                    · first | (refine Or.inl ⟨by rfl, ?_⟩; intro w hSw; (try dsimp only at hSw); go_simp; try with_reducible rfl) | (refine Or.inr ⟨by rfl, ?_⟩; rfl)
                    · assumption
                    try simp only [Act.put, List.setIfInBounds_toArray, List.set_cons_zero, List.set_cons_succ]
                    refine wpAnyH_take (i := 24) (oi := ?_) (v := ?_) ?_ ?_ ?_ ?_ ?_ ?_ ?_ ?_
                    rotate_left 2
                    · (simp only [List.getElem?_toArray, List.getElem?_cons_succ, List.getElem?_cons_zero]; exact rfl)
                    · kernel_rfl
                    · kernel_rfl
                    · kernel_rfl
                    · exact fun _ _ _ h => h
                    · first | (refine Or.inl ⟨by rfl, ?_⟩; intro w hSw; (try dsimp only at hSw); go_simp; try with_reducible rfl) | (refine Or.inr ⟨by rfl, ?_⟩; rfl)
                    · assumption
                    try simp only [Act.put, List.setIfInBounds_toArray, List.set_cons_zero, List.set_cons_succ]
                    refine wpAnyH_take (i := 25) (oi := ?_) (v := ?_) ?_ ?_ ?_ ?_ ?_ ?_ ?_ ?_
                    rotate_left 2
                    · (simp only [List.getElem?_toArray, List.getElem?_cons_succ, List.getElem?_cons_zero]; exact rfl)
                    · kernel_rfl
                    · kernel_rfl
                    · kernel_rfl
                    · exact fun _ _ _ h => h
                    · first | (refine Or.inl ⟨by rfl, ?_⟩; intro w hSw; (try dsimp only at hSw); go_simp; try with_reducible rfl) | (refine Or.inr ⟨by rfl, ?_⟩; rfl)
                    · assumption
                    try simp only [Act.put, List.setIfInBounds_toArray, List.set_cons_zero, List.set_cons_succ]
                    refine wpAnyH_take (i := 26) (oi := ?_) (v := ?_) ?_ ?_ ?_ ?_ ?_ ?_ ?_ ?_
                    rotate_left 2
                    · (simp only [List.getElem?_toArray, List.getElem?_cons_succ, List.getElem?_cons_zero]; exact rfl)
                    · kernel_rfl
                    · kernel_rfl
                    · kernel_rfl
                    · exact fun _ _ _ h => h
                    · first | (refine Or.inl ⟨by rfl, ?_⟩; intro w hSw; (try dsimp only at hSw); go_simp; try with_reducible rfl) | (refine Or.inr ⟨by rfl, ?_⟩; rfl)
                    · assumption
                    try simp only [Act.put, List.setIfInBounds_toArray, List.set_cons_zero, List.set_cons_succ]
                    refine wpAnyH_take (i := 27) (oi := ?_) (v := ?_) ?_ ?_ ?_ ?_ ?_ ?_ ?_ ?_
                    rotate_left 2
                    · (simp only [List.getElem?_toArray, List.getElem?_cons_succ, List.getElem?_cons_zero]; exact rfl)
                    · kernel_rfl
                    · kernel_rfl
                    · kernel_rfl
                    · exact fun _ _ _ h => h
                    · first | (refine Or.inl ⟨by rfl, ?_⟩; intro w hSw; (try dsimp only at hSw); go_simp; try with_reducible rfl) | (refine Or.inr ⟨by rfl, ?_⟩; rfl)
                    · assumption
                    try simp only [Act.put, List.setIfInBounds_toArray, List.set_cons_zero, List.set_cons_succ]
                    refine wpAnyH_take (i := 28) (oi := ?_) (v := ?_) ?_ ?_ ?_ ?_ ?_ ?_ ?_ ?_
                    rotate_left 2
                    · (simp only [List.getElem?_toArray, List.getElem?_cons_succ, List.getElem?_cons_zero]; exact rfl)
                    · kernel_rfl
                    · kernel_rfl
                    · kernel_rfl
                    · exact fun _ _ _ h => h
                    · first | (refine Or.inl ⟨by rfl, ?_⟩; intro w hSw; (try dsimp only at hSw); go_simp; try with_reducible rfl) | (refine Or.inr ⟨by rfl, ?_⟩; rfl)
                    · assumption
                    try simp only [Act.put, List.setIfInBounds_toArray, List.set_cons_zero, List.set_cons_succ]
                    refine wpAnyH_take (i := 29) (oi := ?_) (v := ?_) ?_ ?_ ?_ ?_ ?_ ?_ ?_ ?_
                    rotate_left 2
                    · (simp only [List.getElem?_toArray, List.getElem?_cons_succ, List.getElem?_cons_zero]; exact rfl)
                    · kernel_rfl
                    · kernel_rfl
                    · kernel_rfl
                    · exact fun _ _ _ h => h
                    · first | (refine Or.inl ⟨by rfl, ?_⟩; intro w hSw; (try dsimp only at hSw); go_simp; try with_reducible rfl) | (refine Or.inr ⟨by rfl, ?_⟩; rfl)
                    · assumption
                    try simp only [Act.put, List.setIfInBounds_toArray, List.set_cons_zero, List.set_cons_succ]
                    refine wpAnyH_take (i := 30) (oi := ?_) (v := ?_) ?_ ?_ ?_ ?_ ?_ ?_ ?_ ?_
                    rotate_left 2
                    · (simp only [List.getElem?_toArray, List.getElem?_cons_succ, List.getElem?_cons_zero]; exact rfl)
                    · kernel_rfl
                    · kernel_rfl
                    · kernel_rfl
                    · exact fun _ _ _ h => h
                    · first | (refine Or.inl ⟨by rfl, ?_⟩; intro w hSw; (try dsimp only at hSw); go_simp; try with_reducible rfl) | (refine Or.inr ⟨by rfl, ?_⟩; rfl)
                    · assumption
                    try simp only [Act.put, List.setIfInBounds_toArray, List.set_cons_zero, List.set_cons_succ]
                    refine wpAnyH_take (i := 31) (oi := ?_) (v := ?_) ?_ ?_ ?_ ?_ ?_ ?_ ?_ ?_
                    rotate_left 2
                    · (simp only [List.getElem?_toArray, List.getElem?_cons_succ, List.getElem?_cons_zero]; exact rfl)
                    · kernel_rfl
                    · kernel_rfl
                    · kernel_rfl
                    · exact fun _ _ _ h => h
                    · first | (refine Or.inl ⟨by rfl, ?_⟩; intro w hSw; (try dsimp only at hSw); go_simp; try with_reducible rfl) | (refine Or.inr ⟨by rfl, ?_⟩; rfl)
                    · assumption
                    try simp only [Act.put, List.setIfInBounds_toArray, List.set_cons_zero, List.set_cons_succ]
                    refine wpAnyH_take (i := 32) (oi := ?_) (v := ?_) ?_ ?_ ?_ ?_ ?_ ?_ ?_ ?_
                    rotate_left 2
                    · (simp only [List.getElem?_toArray, List.getElem?_cons_succ, List.getElem?_cons_zero]; exact rfl)
                    · kernel_rfl
                    · kernel_rfl
                    · kernel_rfl
                    · exact fun _ _ _ h => h
                    · first | (refine Or.inl ⟨by rfl, ?_⟩; intro w hSw; (try dsimp only at hSw); go_simp; try with_reducible rfl) | (refine Or.inr ⟨by rfl, ?_⟩; rfl)
                    · assumption
                    try simp only [Act.put, List.setIfInBounds_toArray, List.set_cons_zero, List.set_cons_succ]
                    refine wpAnyH_take (i := 33) (oi := ?_) (v := ?_) ?_ ?_ ?_ ?_ ?_ ?_ ?_ ?_
                    rotate_left 2
                    · (simp only [List.getElem?_toArray, List.getElem?_cons_succ, List.getElem?_cons_zero]; exact rfl)
                    · kernel_rfl
                    · kernel_rfl
                    · kernel_rfl
                    · exact fun _ _ _ h => h
                    · first | (first | ((refine yieldsIf_load_mid ?_ 29 (.tmp 3) ?_ ba 0 ?_ m.cells.toList _ ?_ HUL.out ?_ HMA.out) <;> first | rfl | exact fun w h => h.1) | (refine Or.inl ⟨by rfl, ?_⟩; intro w hSw; obtain ⟨hS1, hS2, hS3⟩ := hSw; go_simp; try with_reducible rfl)) | (refine Or.inr ⟨by rfl, ?_⟩; rfl)
                    · assumption
                    try simp only [Act.put, List.setIfInBounds_toArray, List.set_cons_zero, List.set_cons_succ]
                    refine wpAnyH_take (i := 34) (oi := ?_) (v := ?_) ?_ ?_ ?_ ?_ ?_ ?_ ?_ ?_
                    rotate_left 2
                    · (simp only [List.getElem?_toArray, List.getElem?_cons_succ, List.getElem?_cons_zero]; exact rfl)
                    · kernel_rfl
                    · kernel_rfl
                    · kernel_rfl
                    · exact fun _ _ _ h => h
                    · first | (refine Or.inl ⟨by rfl, ?_⟩; intro w hSw; (try dsimp only at hSw); go_simp; try with_reducible rfl) | (refine Or.inr ⟨by rfl, ?_⟩; rfl)
                    · assumption
                    try simp only [Act.put, List.setIfInBounds_toArray, List.set_cons_zero, List.set_cons_succ]
                    refine wpAnyH_take (i := 35) (oi := ?_) (v := ?_) ?_ ?_ ?_ ?_ ?_ ?_ ?_ ?_
                    rotate_left 2
                    · (simp only [List.getElem?_toArray, List.getElem?_cons_succ, List.getElem?_cons_zero]; exact rfl)
                    · kernel_rfl
                    · kernel_rfl
                    · kernel_rfl
                    · exact fun _ _ _ h => h
                    · first | (first | ((refine yieldsIf_load_mid ?_ 29 (.tmp 3) ?_ ba 0 ?_ m.cells.toList _ ?_ HUL.out ?_ HMA.out) <;> first | rfl | exact fun w h => h.1) | (refine Or.inl ⟨by rfl, ?_⟩; intro w hSw; obtain ⟨hS1, hS2, hS3⟩ := hSw; go_simp; try with_reducible rfl)) | (refine Or.inr ⟨by rfl, ?_⟩; rfl)
                    · assumption
                    try simp only [Act.put, List.setIfInBounds_toArray, List.set_cons_zero, List.set_cons_succ]
                    refine wpAnyH_take (i := 37) (oi := ?_) (v := ?_) ?_ ?_ ?_ ?_ ?_ ?_ ?_ ?_
                    rotate_left 2
                    · (simp only [List.getElem?_toArray, List.getElem?_cons_succ, List.getElem?_cons_zero]; exact rfl)
                    · kernel_rfl
                    · kernel_rfl
                    · kernel_rfl
                    · exact fun _ _ _ h => h
                    · first | (refine Or.inl ⟨by rfl, ?_⟩; intro w hSw; (try dsimp only at hSw); go_simp; try with_reducible rfl) | (refine Or.inr ⟨by rfl, ?_⟩; rfl)
                    · assumption
                    try simp only [Act.put, List.setIfInBounds_toArray, List.set_cons_zero, List.set_cons_succ]
                    refine wpAnyH_take (i := 38) (oi := ?_) (v := ?_) ?_ ?_ ?_ ?_ ?_ ?_ ?_ ?_
                    rotate_left 2
                    · (simp only [List.getElem?_toArray, List.getElem?_cons_succ, List.getElem?_cons_zero]; exact rfl)
                    · kernel_rfl
                    · kernel_rfl
                    · kernel_rfl
                    · exact fun _ _ _ h => h
                    · first | (first | ((refine yieldsIf_load_mid ?_ 29 (.tmp 3) ?_ ba 0 ?_ m.cells.toList _ ?_ HUL.out ?_ HMA.out) <;> first | rfl | exact fun w h => h.1) | (refine Or.inl ⟨by rfl, ?_⟩; intro w hSw; obtain ⟨hS1, hS2, hS3⟩ := hSw; go_simp; try with_reducible rfl)) | (refine Or.inr ⟨by rfl, ?_⟩; rfl)
                    · assumption
                    try simp only [Act.put, List.setIfInBounds_toArray, List.set_cons_zero, List.set_cons_succ]
                    refine wpAnyH_take (i := 39) (oi := ?_) (v := ?_) ?_ ?_ ?_ ?_ ?_ ?_ ?_ ?_
                    rotate_left 2
                    · (simp only [List.getElem?_toArray, List.getElem?_cons_succ, List.getElem?_cons_zero]; exact rfl)
                    · kernel_rfl
                    · kernel_rfl
                    · kernel_rfl
                    · exact fun _ _ _ h => h
                    · first | (refine Or.inl ⟨by rfl, ?_⟩; intro w hSw; (try dsimp only at hSw); go_simp; try with_reducible rfl) | (refine Or.inr ⟨by rfl, ?_⟩; rfl)
                    · assumption
                    try simp only [Act.put, List.setIfInBounds_toArray, List.set_cons_zero, List.set_cons_succ]
                    refine wpAnyH_take (i := 40) (oi := ?_) (v := ?_) ?_ ?_ ?_ ?_ ?_ ?_ ?_ ?_
                    rotate_left 2
                    · (simp only [List.getElem?_toArray, List.getElem?_cons_succ, List.getElem?_cons_zero]; exact rfl)
                    · kernel_rfl
                    · kernel_rfl
                    · kernel_rfl
                    · exact fun _ _ _ h => h
                    · first | (first | ((refine yieldsIf_load_mid ?_ 29 (.tmp 3) ?_ ba 0 ?_ m.cells.toList _ ?_ HUL.out ?_ HMA.out) <;> first | rfl | exact fun w h => h.1) | (refine Or.inl ⟨by rfl, ?_⟩; intro w hSw; obtain ⟨hS1, hS2, hS3⟩ := hSw; go_simp; try with_reducible rfl)) | (refine Or.inr ⟨by rfl, ?_⟩; rfl)
                    · assumption
                    try simp only [Act.put, List.setIfInBounds_toArray, List.set_cons_zero, List.set_cons_succ]
                    refine wpAnyH_ready (rs := [36]) (by kernel_rfl) (by simp) ?_
                    refine AllReadyH.cons (o := ?_) ?_ (fun K hK => ?_) ?_
                    rotate_left 1
                    · (simp only [List.getElem?_toArray, List.getElem?_cons_succ, List.getElem?_cons_zero]; exact rfl)
                    · go_simp
                      (first | (go_at_call 21; (with_reducible refine (KR1.out _ _ hx).mono ?_); rintro e wx ⟨rfl, hx⟩; dsimp only) | (go_at_call 17; (with_reducible refine (KR2.out _ _ hx).mono ?_); rintro e wx ⟨rfl, hx⟩; dsimp only) | (go_at_call 18; (with_reducible refine (KB1.out _ _ hx).mono ?_); rintro e wx ⟨v5, rfl, A5, c5, L5, rfl, hr5, hx⟩; have hcv5 := HCX.out wx A5 c5 (hr5.src fun p hp => hx.own p (by simp [hp])); dsimp only) | (go_at_call 27; (with_reducible refine (KB2.out _ _ hx).mono ?_); rintro e wx ⟨v6, rfl, A6, c6, L6, rfl, hr6, hx⟩; have hcv6 := HCX.out wx A6 c6 (hr6.src fun p hp => hx.own p (by simp [hp])); have hcv5' := HCX.out wx A5 c5 (hr5.src fun p hp => hx.own p (by simp [hp])); dsimp only) | (go_at_call 25; (with_reducible refine (KX1.out _ _ hx).mono ?_); rintro e wx ⟨rfl, hx⟩; dsimp only) | (go_at_call 28; (with_reducible refine (KX2.out _ _ hx).mono ?_); rintro e wx ⟨rfl, hx⟩; dsimp only) | (go_at_call 23; (with_reducible refine (KC1.out _).mono ?_); rintro e wx ⟨rfl, rfl⟩; dsimp only) | (go_at_call 29; (with_reducible refine (KC2.out _).mono ?_); rintro e wx ⟨rfl, rfl⟩; dsimp only))
                      refine hK.out _ _ ?_ (fun hHeld => ?_)
                      · (try dsimp only) <;> (exact SX.out _ _ hx (by simp) (by simp))
                      clear hK K
                      try simp only [Act.put, List.setIfInBounds_toArray, List.set_cons_zero, List.set_cons_succ]
                      refine wpAnyH_ready (rs := [41]) (by kernel_rfl) (by simp) ?_
                      refine AllReadyH.cons (o := ?_) ?_ (fun K hK => ?_) ?_
                      rotate_left 1
                      · (simp only [List.getElem?_toArray, List.getElem?_cons_succ, List.getElem?_cons_zero]; exact rfl)
                      · go_simp
                        (first | (go_at_call 21; (with_reducible refine (KR1.out _ _ hx).mono ?_); rintro e wx ⟨rfl, hx⟩; dsimp only) | (go_at_call 17; (with_reducible refine (KR2.out _ _ hx).mono ?_); rintro e wx ⟨rfl, hx⟩; dsimp only) | (go_at_call 18; (with_reducible refine (KB1.out _ _ hx).mono ?_); rintro e wx ⟨v5, rfl, A5, c5, L5, rfl, hr5, hx⟩; have hcv5 := HCX.out wx A5 c5 (hr5.src fun p hp => hx.own p (by simp [hp])); dsimp only) | (go_at_call 27; (with_reducible refine (KB2.out _ _ hx).mono ?_); rintro e wx ⟨v6, rfl, A6, c6, L6, rfl, hr6, hx⟩; have hcv6 := HCX.out wx A6 c6 (hr6.src fun p hp => hx.own p (by simp [hp])); have hcv5' := HCX.out wx A5 c5 (hr5.src fun p hp => hx.own p (by simp [hp])); dsimp only) | (go_at_call 25; (with_reducible refine (KX1.out _ _ hx).mono ?_); rintro e wx ⟨rfl, hx⟩; dsimp only) | (go_at_call 28; (with_reducible refine (KX2.out _ _ hx).mono ?_); rintro e wx ⟨rfl, hx⟩; dsimp only) | (go_at_call 23; (with_reducible refine (KC1.out _).mono ?_); rintro e wx ⟨rfl, rfl⟩; dsimp only) | (go_at_call 29; (with_reducible refine (KC2.out _).mono ?_); rintro e wx ⟨rfl, rfl⟩; dsimp only))
                        refine hK.out _ _ ?_ (fun hHeld => ?_)
                        · (try dsimp only) <;> (exact SX.out _ _ hx (by simp) (by simp))
                        clear hK K
                        try simp only [Act.put, List.setIfInBounds_toArray, List.set_cons_zero, List.set_cons_succ]
                        refine wpAnyH_take (i := 42) (oi := ?_) (v := ?_) ?_ ?_ ?_ ?_ ?_ ?_ ?_ ?_
                        rotate_left 2
                        · (simp only [List.getElem?_toArray, List.getElem?_cons_succ, List.getElem?_cons_zero]; exact rfl)
                        · kernel_rfl
                        · kernel_rfl
                        · kernel_rfl
                        · exact fun _ _ _ h => h
                        · first | (refine Or.inl ⟨by rfl, ?_⟩; intro w hSw; (try dsimp only at hSw); go_simp; try with_reducible rfl) | (refine Or.inr ⟨by rfl, ?_⟩; rfl)
                        · assumption
                        try simp only [Act.put, List.setIfInBounds_toArray, List.set_cons_zero, List.set_cons_succ]
                        refine wpAnyH_take (i := 43) (oi := ?_) (v := ?_) ?_ ?_ ?_ ?_ ?_ ?_ ?_ ?_
                        rotate_left 2
                        · (simp only [List.getElem?_toArray, List.getElem?_cons_succ, List.getElem?_cons_zero]; exact rfl)
                        · kernel_rfl
                        · kernel_rfl
                        · kernel_rfl
                        · exact fun _ _ _ h => h
                        · first | (refine Or.inl ⟨by rfl, ?_⟩; intro w hSw; (try dsimp only at hSw); go_simp; try with_reducible rfl) | (refine Or.inr ⟨by rfl, ?_⟩; rfl)
                        · assumption
                        try simp only [Act.put, List.setIfInBounds_toArray, List.set_cons_zero, List.set_cons_succ]
                        refine wpAnyH_take (i := 44) (oi := ?_) (v := ?_) ?_ ?_ ?_ ?_ ?_ ?_ ?_ ?_
                        rotate_left 2
                        · (simp only [List.getElem?_toArray, List.getElem?_cons_succ, List.getElem?_cons_zero]; exact rfl)
                        · kernel_rfl
                        · kernel_rfl
                        · kernel_rfl
                        · exact fun _ _ _ h => h
                        · first | (refine Or.inl ⟨by rfl, ?_⟩; intro w hSw; (try dsimp only at hSw); go_simp; try with_reducible rfl) | (refine Or.inr ⟨by rfl, ?_⟩; rfl)
                        · assumption
                        try simp only [Act.put, List.setIfInBounds_toArray, List.set_cons_zero, List.set_cons_succ]
                        refine wpAnyH_done (by kernel_rfl) ?_ _
                        have HF : Hid (Below W.heap.size W _) := Lib.hid (hx.below (Le.refl _))
                        go_wp2_with fail
                        go_ret
                        exact ⟨by first | rfl | simp, HF.out⟩
                      exact AllReadyH.nil
                    exact AllReadyH.nil
                  exact AllReadyH.nil
                exact AllReadyH.nil
              exact AllReadyH.nil
            exact AllReadyH.nil
          exact AllReadyH.nil
        exact AllReadyH.nil
      exact AllReadyH.nil
    exact AllReadyH.nil
end Go.Proofs.YtfbffmckmchbbaaDoor
