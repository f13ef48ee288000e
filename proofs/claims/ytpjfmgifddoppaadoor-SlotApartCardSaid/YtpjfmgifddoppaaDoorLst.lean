/- SlotTells: the walk of the law. -/
import Derived.Test.YtpjfmgifddoppaaDoorRsby
import Derived.Test.YtpjfmgifddoppaaDoorSlX
import Derived.Test.YtpjfmgifddoppaaDoorSlotD
import Derived.Deep.RegionWith
import Derived.Deep.RegionHeld3
namespace Go.Proofs.YtpjfmgifddoppaaDoor
set_option linter.unusedVariables false
set_option linter.unusedSimpArgs false
open Go.RowKit Go.Lib

set_option maxRecDepth 100000 in
set_option maxHeartbeats 8000000 in
theorem walk_slotTells (W : World) (sv : SV0 W) {H : Type} {enc : TypeId × Value → H} {v0 : Value} (a0 : Arg enc Tryd.prog W 26 v0) :
    Calls Tryd.prog 6 #[v0] W fun e w' => e = .returned (.bool true) ∧ Below W.heap.size W w' := by
  obtain ⟨s, rfl, ok⟩ := a0.slot
  have h0 := (St.start W).alloc (.cells s.cells 26)
  obtain ⟨b, hb⟩ : ∃ b, W.heap.size = b := ⟨_, rfl⟩
  rw [hb] at h0
  have kA := slot_alive sv h0
  have kR := fun (v : World) (F : List (Nat × Obj)) (hv : St W v (fun b => W.heap[b]?) F) => slot_right s ok hv
  have kR' := fun (v : World) (F : List (Nat × Obj)) (hv : St W v (fun b => W.heap[b]?) F) => ref_right s ok hv
  have kB := fun (v : World) (F : List (Nat × Obj)) (hv : St W v (fun b => W.heap[b]?) F) => slot_boot s ok hv
  have kB' := fun (v : World) (F : List (Nat × Obj)) (hv : St W v (fun b => W.heap[b]?) F) => ref_boot s ok hv
  have kY := fun (v : World) (F : List (Nat × Obj)) (hv : St W v (fun b => W.heap[b]?) F) => slot_bytes s ok hv
  have kY' := fun (v : World) (F : List (Nat × Obj)) (hv : St W v (fun b => W.heap[b]?) F) => ref_bytes s ok hv
  have kT := fun (v : World) (F : List (Nat × Obj)) (hv : St W v (fun b => W.heap[b]?) F) => slot_text sv s ok hv
  have kT' := fun (v : World) (F : List (Nat × Obj)) (hv : St W v (fun b => W.heap[b]?) F) => ref_text s ok hv
  have sx : ∀ v F, St W v (fun b => W.heap[b]?) F → (b, Obj.cells s.cells 26 (0, 0)) ∈ F → v.rangeAt b 0 s.cells.toList := fun v F hv q1 => hv.rangeAt (g := b) (cs := s.cells) (t := 26) (fr := (0, 0)) q1 (fun j hj => by simp)
  have hul : Tryd.prog.underlying 26 = some _ := Tryd.underlying26
  have hma : (Tryd.prog.info? 26).map (·.size) = some s.cells.toList.length := by rw [Array.length_toList]; exact slot_info ok.dig
  unfold Slt.val at kR kR' kB kB' kY kY' kT kT' ⊢
  obtain ⟨X, hX⟩ : ∃ X, sByR s = X := ⟨_, rfl⟩
  rw [hX] at kY kY'
  obtain ⟨sX, hsX⟩ : ∃ s, (⟨X.toArray⟩ : ByteArray) = s := ⟨_, rfl⟩
  have hcx : ∀ (v : World) (A : Option Addr) (c : Nat), Src v 1 A X.length (X.map bval) → (convert 40 9 (.slice A X.length c)).run Tryd.prog v = .ok (.string sX) v := fun v A c h => by
    rw [← hsX]
    exact conv_str (P := Tryd.prog) Tryd.underlying40 Tryd.underlying5 Tryd.underlying9 (c := c) h
  generalize rightS s = R at *
  generalize bootS s = T at *
  generalize (⟨(textS s).toArray⟩ : ByteArray) = tx at *
  have F0 : Hid ((R == R) = true) := Lib.hid (by simp)
  have F1 : Hid ((T == T) = true) := Lib.hid (by simp)
  have F2 : Hid ((sX.toList == sX.toList) = true) := Lib.hid (by simp)
  have F3 : Hid ((tx.toList == tx.toList) = true) := Lib.hid (by simp)
  have KA := Lib.hid kA; have KR := Lib.hid kR; have KR' := Lib.hid kR'; have KB := Lib.hid kB; have KB' := Lib.hid kB'; have KY := Lib.hid kY; have KY' := Lib.hid kY'; have KT := Lib.hid kT; have KT' := Lib.hid kT'
  have SX := Lib.hid sx; have HUL := Lib.hid hul; have HMA := Lib.hid hma; have HCX := Lib.hid hcx; have HB := Lib.hid hb
  clear kA kR kR' kB kB' kY kY' kT kT' sx hul hma hcx hX hsX a0 ok h0 sv hb
  go_enter Tryd.func6, Tryd.ntmps6
  go_wp2_with fail
  rw [HB.out]
  refine KA.out.mono ?_
  rintro e w1 ⟨rfl, h1⟩
  have hx := h1.drew1
  clear KA h1 HB
  go_wp2_with fail
  refine wp_region_held_drew (S := fun v => v.rangeAt b 0 s.cells.toList) (by kernel_rfl) (SX.out _ _ hx (by simp)) (fun hHeld => ?_)
  refine wpAnyH_take (i := 0) (oi := ?_) (v := ?_) ?_ ?_ ?_ ?_ ?_ ?_ ?_ ?_
  rotate_left 2
  · (simp only [List.getElem?_toArray, List.getElem?_cons_succ, List.getElem?_cons_zero]; exact rfl)
  · kernel_rfl
  · kernel_rfl
  · kernel_rfl
  · exact fun _ _ _ h => h
  · first | (first | ((refine yieldsIf_load_mid ?_ 26 (.tmp 1) ?_ b 0 ?_ s.cells.toList _ ?_ HUL.out ?_ HMA.out) <;> first | rfl | exact fun w h => h) | (refine Or.inl ⟨by rfl, ?_⟩; intro w hSw; (try dsimp only at hSw); go_simp; try with_reducible rfl)) | (refine Or.inr ⟨by rfl, ?_⟩; rfl)
  · assumption
  try simp only [Act.put, List.setIfInBounds_toArray, List.set_cons_zero, List.set_cons_succ]
  try simp only [F0.out, F1.out, F2.out, F3.out]
  refine wpAnyH_take (i := 2) (oi := ?_) (v := ?_) ?_ ?_ ?_ ?_ ?_ ?_ ?_ ?_
  rotate_left 2
  · (simp only [List.getElem?_toArray, List.getElem?_cons_succ, List.getElem?_cons_zero]; exact rfl)
  · kernel_rfl
  · kernel_rfl
  · kernel_rfl
  · exact fun _ _ _ h => h
  · first | (first | ((refine yieldsIf_load_mid ?_ 26 (.tmp 1) ?_ b 0 ?_ s.cells.toList _ ?_ HUL.out ?_ HMA.out) <;> first | rfl | exact fun w h => h) | (refine Or.inl ⟨by rfl, ?_⟩; intro w hSw; (try dsimp only at hSw); go_simp; try with_reducible rfl)) | (refine Or.inr ⟨by rfl, ?_⟩; rfl)
  · assumption
  try simp only [Act.put, List.setIfInBounds_toArray, List.set_cons_zero, List.set_cons_succ]
  try simp only [F0.out, F1.out, F2.out, F3.out]
  refine wpAnyH_ready (rs := [1]) (by kernel_rfl) (by simp) ?_
  refine AllReadyH.cons (o := ?_) ?_ (fun K hK => ?_) ?_
  rotate_left 1
  · (simp only [List.getElem?_toArray, List.getElem?_cons_succ, List.getElem?_cons_zero]; exact rfl)
  · go_simp
    (first | (go_at_call 28; (with_reducible refine (KR.out _ _ hx).mono ?_); rintro e wx ⟨rfl, hx⟩; dsimp only) | (go_at_call 16; (with_reducible refine (KR'.out _ _ hx).mono ?_); rintro e wx ⟨rfl, hx⟩; dsimp only) | (go_at_call 23; (with_reducible refine (KB.out _ _ hx).mono ?_); rintro e wx ⟨rfl, hx⟩; dsimp only) | (go_at_call 29; (with_reducible refine (KB'.out _ _ hx).mono ?_); rintro e wx ⟨rfl, hx⟩; dsimp only) | (go_at_call 30; (with_reducible refine (KY.out _ _ hx).mono ?_); rintro e wx ⟨v5, rfl, A5, c5, L5, rfl, hr5, hx⟩; have hcv5 := HCX.out wx A5 c5 (hr5.src fun p hp => hx.own p (by simp [hp])); (try have hcv6 := HCX.out wx A6 c6 (hr6.src fun p hp => hx.own p (by simp [hp]))); dsimp only) | (go_at_call 31; (with_reducible refine (KY'.out _ _ hx).mono ?_); rintro e wx ⟨v6, rfl, A6, c6, L6, rfl, hr6, hx⟩; have hcv6 := HCX.out wx A6 c6 (hr6.src fun p hp => hx.own p (by simp [hp])); (try have hcv5 := HCX.out wx A5 c5 (hr5.src fun p hp => hx.own p (by simp [hp]))); dsimp only) | (go_at_call 32; (with_reducible refine (KT.out _ _ hx).mono ?_); rintro e wx ⟨rfl, hx⟩; dsimp only) | (go_at_call 33; (with_reducible refine (KT'.out _ _ hx).mono ?_); rintro e wx ⟨rfl, hx⟩; dsimp only))
    refine hK.out _ _ ?_ (fun hHeld => ?_)
    · (try dsimp only) <;> (exact SX.out _ _ hx (by simp))
    clear hK K
    try simp only [Act.put, List.setIfInBounds_toArray, List.set_cons_zero, List.set_cons_succ]
    try simp only [F0.out, F1.out, F2.out, F3.out]
    refine wpAnyH_ready (rs := [3]) (by kernel_rfl) (by simp) ?_
    refine AllReadyH.cons (o := ?_) ?_ (fun K hK => ?_) ?_
    rotate_left 1
    · (simp only [List.getElem?_toArray, List.getElem?_cons_succ, List.getElem?_cons_zero]; exact rfl)
    · go_simp
      (first | (go_at_call 28; (with_reducible refine (KR.out _ _ hx).mono ?_); rintro e wx ⟨rfl, hx⟩; dsimp only) | (go_at_call 16; (with_reducible refine (KR'.out _ _ hx).mono ?_); rintro e wx ⟨rfl, hx⟩; dsimp only) | (go_at_call 23; (with_reducible refine (KB.out _ _ hx).mono ?_); rintro e wx ⟨rfl, hx⟩; dsimp only) | (go_at_call 29; (with_reducible refine (KB'.out _ _ hx).mono ?_); rintro e wx ⟨rfl, hx⟩; dsimp only) | (go_at_call 30; (with_reducible refine (KY.out _ _ hx).mono ?_); rintro e wx ⟨v5, rfl, A5, c5, L5, rfl, hr5, hx⟩; have hcv5 := HCX.out wx A5 c5 (hr5.src fun p hp => hx.own p (by simp [hp])); (try have hcv6 := HCX.out wx A6 c6 (hr6.src fun p hp => hx.own p (by simp [hp]))); dsimp only) | (go_at_call 31; (with_reducible refine (KY'.out _ _ hx).mono ?_); rintro e wx ⟨v6, rfl, A6, c6, L6, rfl, hr6, hx⟩; have hcv6 := HCX.out wx A6 c6 (hr6.src fun p hp => hx.own p (by simp [hp])); (try have hcv5 := HCX.out wx A5 c5 (hr5.src fun p hp => hx.own p (by simp [hp]))); dsimp only) | (go_at_call 32; (with_reducible refine (KT.out _ _ hx).mono ?_); rintro e wx ⟨rfl, hx⟩; dsimp only) | (go_at_call 33; (with_reducible refine (KT'.out _ _ hx).mono ?_); rintro e wx ⟨rfl, hx⟩; dsimp only))
      refine hK.out _ _ ?_ (fun hHeld => ?_)
      · (try dsimp only) <;> (exact SX.out _ _ hx (by simp))
      clear hK K
      try simp only [Act.put, List.setIfInBounds_toArray, List.set_cons_zero, List.set_cons_succ]
      try simp only [F0.out, F1.out, F2.out, F3.out]
      refine wpAnyH_take (i := 4) (oi := ?_) (v := ?_) ?_ ?_ ?_ ?_ ?_ ?_ ?_ ?_
      rotate_left 2
      · (simp only [List.getElem?_toArray, List.getElem?_cons_succ, List.getElem?_cons_zero]; exact rfl)
      · kernel_rfl
      · kernel_rfl
      · kernel_rfl
      · exact fun _ _ _ h => h
      · first | (refine Or.inl ⟨by rfl, ?_⟩; intro w hSw; (try dsimp only at hSw); go_simp; try with_reducible rfl) | (refine Or.inr ⟨by rfl, ?_⟩; rfl)
      · assumption
      try simp only [Act.put, List.setIfInBounds_toArray, List.set_cons_zero, List.set_cons_succ]
      try simp only [F0.out, F1.out, F2.out, F3.out]
      refine wpAnyH_take (i := 5) (oi := ?_) (v := ?_) ?_ ?_ ?_ ?_ ?_ ?_ ?_ ?_
      rotate_left 2
      · (simp only [List.getElem?_toArray, List.getElem?_cons_succ, List.getElem?_cons_zero]; exact rfl)
      · kernel_rfl
      · kernel_rfl
      · kernel_rfl
      · exact fun _ _ _ h => h
      · first | (refine Or.inl ⟨by rfl, ?_⟩; intro w hSw; (try dsimp only at hSw); go_simp; try with_reducible rfl) | (refine Or.inr ⟨by rfl, ?_⟩; rfl)
      · assumption
      try simp only [Act.put, List.setIfInBounds_toArray, List.set_cons_zero, List.set_cons_succ]
      try simp only [F0.out, F1.out, F2.out, F3.out]
      refine wpAnyH_take (i := 6) (oi := ?_) (v := ?_) ?_ ?_ ?_ ?_ ?_ ?_ ?_ ?_
      rotate_left 2
      · (simp only [List.getElem?_toArray, List.getElem?_cons_succ, List.getElem?_cons_zero]; exact rfl)
      · kernel_rfl
      · kernel_rfl
      · kernel_rfl
      · exact fun _ _ _ h => h
      · first | (first | ((refine yieldsIf_load_mid ?_ 26 (.tmp 1) ?_ b 0 ?_ s.cells.toList _ ?_ HUL.out ?_ HMA.out) <;> first | rfl | exact fun w h => h) | (refine Or.inl ⟨by rfl, ?_⟩; intro w hSw; (try dsimp only at hSw); go_simp; try with_reducible rfl)) | (refine Or.inr ⟨by rfl, ?_⟩; rfl)
      · assumption
      try simp only [Act.put, List.setIfInBounds_toArray, List.set_cons_zero, List.set_cons_succ]
      try simp only [F0.out, F1.out, F2.out, F3.out]
      refine wpAnyH_take (i := 8) (oi := ?_) (v := ?_) ?_ ?_ ?_ ?_ ?_ ?_ ?_ ?_
      rotate_left 2
      · (simp only [List.getElem?_toArray, List.getElem?_cons_succ, List.getElem?_cons_zero]; exact rfl)
      · kernel_rfl
      · kernel_rfl
      · kernel_rfl
      · exact fun _ _ _ h => h
      · first | (first | ((refine yieldsIf_load_mid ?_ 26 (.tmp 1) ?_ b 0 ?_ s.cells.toList _ ?_ HUL.out ?_ HMA.out) <;> first | rfl | exact fun w h => h) | (refine Or.inl ⟨by rfl, ?_⟩; intro w hSw; (try dsimp only at hSw); go_simp; try with_reducible rfl)) | (refine Or.inr ⟨by rfl, ?_⟩; rfl)
      · assumption
      try simp only [Act.put, List.setIfInBounds_toArray, List.set_cons_zero, List.set_cons_succ]
      try simp only [F0.out, F1.out, F2.out, F3.out]
      refine wpAnyH_ready (rs := [7]) (by kernel_rfl) (by simp) ?_
      refine AllReadyH.cons (o := ?_) ?_ (fun K hK => ?_) ?_
      rotate_left 1
      · (simp only [List.getElem?_toArray, List.getElem?_cons_succ, List.getElem?_cons_zero]; exact rfl)
      · go_simp
        (first | (go_at_call 28; (with_reducible refine (KR.out _ _ hx).mono ?_); rintro e wx ⟨rfl, hx⟩; dsimp only) | (go_at_call 16; (with_reducible refine (KR'.out _ _ hx).mono ?_); rintro e wx ⟨rfl, hx⟩; dsimp only) | (go_at_call 23; (with_reducible refine (KB.out _ _ hx).mono ?_); rintro e wx ⟨rfl, hx⟩; dsimp only) | (go_at_call 29; (with_reducible refine (KB'.out _ _ hx).mono ?_); rintro e wx ⟨rfl, hx⟩; dsimp only) | (go_at_call 30; (with_reducible refine (KY.out _ _ hx).mono ?_); rintro e wx ⟨v5, rfl, A5, c5, L5, rfl, hr5, hx⟩; have hcv5 := HCX.out wx A5 c5 (hr5.src fun p hp => hx.own p (by simp [hp])); (try have hcv6 := HCX.out wx A6 c6 (hr6.src fun p hp => hx.own p (by simp [hp]))); dsimp only) | (go_at_call 31; (with_reducible refine (KY'.out _ _ hx).mono ?_); rintro e wx ⟨v6, rfl, A6, c6, L6, rfl, hr6, hx⟩; have hcv6 := HCX.out wx A6 c6 (hr6.src fun p hp => hx.own p (by simp [hp])); (try have hcv5 := HCX.out wx A5 c5 (hr5.src fun p hp => hx.own p (by simp [hp]))); dsimp only) | (go_at_call 32; (with_reducible refine (KT.out _ _ hx).mono ?_); rintro e wx ⟨rfl, hx⟩; dsimp only) | (go_at_call 33; (with_reducible refine (KT'.out _ _ hx).mono ?_); rintro e wx ⟨rfl, hx⟩; dsimp only))
        refine hK.out _ _ ?_ (fun hHeld => ?_)
        · (try dsimp only) <;> (exact SX.out _ _ hx (by simp))
        clear hK K
        try simp only [Act.put, List.setIfInBounds_toArray, List.set_cons_zero, List.set_cons_succ]
        try simp only [F0.out, F1.out, F2.out, F3.out]
        refine wpAnyH_ready (rs := [9]) (by kernel_rfl) (by simp) ?_
        refine AllReadyH.cons (o := ?_) ?_ (fun K hK => ?_) ?_
        rotate_left 1
        · (simp only [List.getElem?_toArray, List.getElem?_cons_succ, List.getElem?_cons_zero]; exact rfl)
        · go_simp
          (first | (go_at_call 28; (with_reducible refine (KR.out _ _ hx).mono ?_); rintro e wx ⟨rfl, hx⟩; dsimp only) | (go_at_call 16; (with_reducible refine (KR'.out _ _ hx).mono ?_); rintro e wx ⟨rfl, hx⟩; dsimp only) | (go_at_call 23; (with_reducible refine (KB.out _ _ hx).mono ?_); rintro e wx ⟨rfl, hx⟩; dsimp only) | (go_at_call 29; (with_reducible refine (KB'.out _ _ hx).mono ?_); rintro e wx ⟨rfl, hx⟩; dsimp only) | (go_at_call 30; (with_reducible refine (KY.out _ _ hx).mono ?_); rintro e wx ⟨v5, rfl, A5, c5, L5, rfl, hr5, hx⟩; have hcv5 := HCX.out wx A5 c5 (hr5.src fun p hp => hx.own p (by simp [hp])); (try have hcv6 := HCX.out wx A6 c6 (hr6.src fun p hp => hx.own p (by simp [hp]))); dsimp only) | (go_at_call 31; (with_reducible refine (KY'.out _ _ hx).mono ?_); rintro e wx ⟨v6, rfl, A6, c6, L6, rfl, hr6, hx⟩; have hcv6 := HCX.out wx A6 c6 (hr6.src fun p hp => hx.own p (by simp [hp])); (try have hcv5 := HCX.out wx A5 c5 (hr5.src fun p hp => hx.own p (by simp [hp]))); dsimp only) | (go_at_call 32; (with_reducible refine (KT.out _ _ hx).mono ?_); rintro e wx ⟨rfl, hx⟩; dsimp only) | (go_at_call 33; (with_reducible refine (KT'.out _ _ hx).mono ?_); rintro e wx ⟨rfl, hx⟩; dsimp only))
          refine hK.out _ _ ?_ (fun hHeld => ?_)
          · (try dsimp only) <;> (exact SX.out _ _ hx (by simp))
          clear hK K
          try simp only [Act.put, List.setIfInBounds_toArray, List.set_cons_zero, List.set_cons_succ]
          try simp only [F0.out, F1.out, F2.out, F3.out]
          refine wpAnyH_take (i := 10) (oi := ?_) (v := ?_) ?_ ?_ ?_ ?_ ?_ ?_ ?_ ?_
          rotate_left 2
          · (simp only [List.getElem?_toArray, List.getElem?_cons_succ, List.getElem?_cons_zero]; exact rfl)
          · kernel_rfl
          · kernel_rfl
          · kernel_rfl
          · exact fun _ _ _ h => h
          · first | (refine Or.inl ⟨by rfl, ?_⟩; intro w hSw; (try dsimp only at hSw); go_simp; try with_reducible rfl) | (refine Or.inr ⟨by rfl, ?_⟩; rfl)
          · assumption
          try simp only [Act.put, List.setIfInBounds_toArray, List.set_cons_zero, List.set_cons_succ]
          try simp only [F0.out, F1.out, F2.out, F3.out]
          refine wpAnyH_take (i := 11) (oi := ?_) (v := ?_) ?_ ?_ ?_ ?_ ?_ ?_ ?_ ?_
          rotate_left 2
          · (simp only [List.getElem?_toArray, List.getElem?_cons_succ, List.getElem?_cons_zero]; exact rfl)
          · kernel_rfl
          · kernel_rfl
          · kernel_rfl
          · exact fun _ _ _ h => h
          · first | (refine Or.inl ⟨by rfl, ?_⟩; intro w hSw; (try dsimp only at hSw); go_simp; try with_reducible rfl) | (refine Or.inr ⟨by rfl, ?_⟩; rfl)
          · assumption
          try simp only [Act.put, List.setIfInBounds_toArray, List.set_cons_zero, List.set_cons_succ]
          try simp only [F0.out, F1.out, F2.out, F3.out]
          refine wpAnyH_take (i := 12) (oi := ?_) (v := ?_) ?_ ?_ ?_ ?_ ?_ ?_ ?_ ?_
          rotate_left 2
          · (simp only [List.getElem?_toArray, List.getElem?_cons_succ, List.getElem?_cons_zero]; exact rfl)
          · kernel_rfl
          · kernel_rfl
          · kernel_rfl
          · exact fun _ _ _ h => h
          · first | (refine Or.inl ⟨by rfl, ?_⟩; intro w hSw; (try dsimp only at hSw); go_simp; try with_reducible rfl) | (refine Or.inr ⟨by rfl, ?_⟩; rfl)
          · assumption
          try simp only [Act.put, List.setIfInBounds_toArray, List.set_cons_zero, List.set_cons_succ]
          try simp only [F0.out, F1.out, F2.out, F3.out]
          refine wpAnyH_take (i := 13) (oi := ?_) (v := ?_) ?_ ?_ ?_ ?_ ?_ ?_ ?_ ?_
          rotate_left 2
          · (simp only [List.getElem?_toArray, List.getElem?_cons_succ, List.getElem?_cons_zero]; exact rfl)
          · kernel_rfl
          · kernel_rfl
          · kernel_rfl
          · exact fun _ _ _ h => h
          · first | (first | ((refine yieldsIf_load_mid ?_ 26 (.tmp 1) ?_ b 0 ?_ s.cells.toList _ ?_ HUL.out ?_ HMA.out) <;> first | rfl | exact fun w h => h) | (refine Or.inl ⟨by rfl, ?_⟩; intro w hSw; (try dsimp only at hSw); go_simp; try with_reducible rfl)) | (refine Or.inr ⟨by rfl, ?_⟩; rfl)
          · assumption
          try simp only [Act.put, List.setIfInBounds_toArray, List.set_cons_zero, List.set_cons_succ]
          try simp only [F0.out, F1.out, F2.out, F3.out]
          refine wpAnyH_take (i := 16) (oi := ?_) (v := ?_) ?_ ?_ ?_ ?_ ?_ ?_ ?_ ?_
          rotate_left 2
          · (simp only [List.getElem?_toArray, List.getElem?_cons_succ, List.getElem?_cons_zero]; exact rfl)
          · kernel_rfl
          · kernel_rfl
          · kernel_rfl
          · exact fun _ _ _ h => h
          · first | (first | ((refine yieldsIf_load_mid ?_ 26 (.tmp 1) ?_ b 0 ?_ s.cells.toList _ ?_ HUL.out ?_ HMA.out) <;> first | rfl | exact fun w h => h) | (refine Or.inl ⟨by rfl, ?_⟩; intro w hSw; (try dsimp only at hSw); go_simp; try with_reducible rfl)) | (refine Or.inr ⟨by rfl, ?_⟩; rfl)
          · assumption
          try simp only [Act.put, List.setIfInBounds_toArray, List.set_cons_zero, List.set_cons_succ]
          try simp only [F0.out, F1.out, F2.out, F3.out]
          refine wpAnyH_ready (rs := [14]) (by kernel_rfl) (by simp) ?_
          refine AllReadyH.cons (o := ?_) ?_ (fun K hK => ?_) ?_
          rotate_left 1
          · (simp only [List.getElem?_toArray, List.getElem?_cons_succ, List.getElem?_cons_zero]; exact rfl)
          · go_simp
            (first | (go_at_call 28; (with_reducible refine (KR.out _ _ hx).mono ?_); rintro e wx ⟨rfl, hx⟩; dsimp only) | (go_at_call 16; (with_reducible refine (KR'.out _ _ hx).mono ?_); rintro e wx ⟨rfl, hx⟩; dsimp only) | (go_at_call 23; (with_reducible refine (KB.out _ _ hx).mono ?_); rintro e wx ⟨rfl, hx⟩; dsimp only) | (go_at_call 29; (with_reducible refine (KB'.out _ _ hx).mono ?_); rintro e wx ⟨rfl, hx⟩; dsimp only) | (go_at_call 30; (with_reducible refine (KY.out _ _ hx).mono ?_); rintro e wx ⟨v5, rfl, A5, c5, L5, rfl, hr5, hx⟩; have hcv5 := HCX.out wx A5 c5 (hr5.src fun p hp => hx.own p (by simp [hp])); (try have hcv6 := HCX.out wx A6 c6 (hr6.src fun p hp => hx.own p (by simp [hp]))); dsimp only) | (go_at_call 31; (with_reducible refine (KY'.out _ _ hx).mono ?_); rintro e wx ⟨v6, rfl, A6, c6, L6, rfl, hr6, hx⟩; have hcv6 := HCX.out wx A6 c6 (hr6.src fun p hp => hx.own p (by simp [hp])); (try have hcv5 := HCX.out wx A5 c5 (hr5.src fun p hp => hx.own p (by simp [hp]))); dsimp only) | (go_at_call 32; (with_reducible refine (KT.out _ _ hx).mono ?_); rintro e wx ⟨rfl, hx⟩; dsimp only) | (go_at_call 33; (with_reducible refine (KT'.out _ _ hx).mono ?_); rintro e wx ⟨rfl, hx⟩; dsimp only))
            refine hK.out _ _ ?_ (fun hHeld => ?_)
            · (try dsimp only) <;> (exact SX.out _ _ hx (by simp))
            clear hK K
            try simp only [Act.put, List.setIfInBounds_toArray, List.set_cons_zero, List.set_cons_succ]
            try simp only [F0.out, F1.out, F2.out, F3.out]
            refine wpAnyH_ready (rs := [15, 17]) (by kernel_rfl) (by simp) ?_
            refine AllReadyH.cons (o := ?_) ?_ (fun K hK => ?_) ?_
            rotate_left 1
            · (simp only [List.getElem?_toArray, List.getElem?_cons_succ, List.getElem?_cons_zero]; exact rfl)
            · go_simp
              refine hK.out _ _ ?_ (fun hHeld => ?_)
              · (try dsimp only) <;> (exact SX.out _ _ hx (by simp))
              clear hK K
              try simp only [Act.put, List.setIfInBounds_toArray, List.set_cons_zero, List.set_cons_succ]
              try simp only [F0.out, F1.out, F2.out, F3.out]
              refine wpAnyH_ready (rs := [17]) (by kernel_rfl) (by simp) ?_
              refine AllReadyH.cons (o := ?_) ?_ (fun K hK => ?_) ?_
              rotate_left 1
              · (simp only [List.getElem?_toArray, List.getElem?_cons_succ, List.getElem?_cons_zero]; exact rfl)
              · go_simp
                (first | (go_at_call 28; (with_reducible refine (KR.out _ _ hx).mono ?_); rintro e wx ⟨rfl, hx⟩; dsimp only) | (go_at_call 16; (with_reducible refine (KR'.out _ _ hx).mono ?_); rintro e wx ⟨rfl, hx⟩; dsimp only) | (go_at_call 23; (with_reducible refine (KB.out _ _ hx).mono ?_); rintro e wx ⟨rfl, hx⟩; dsimp only) | (go_at_call 29; (with_reducible refine (KB'.out _ _ hx).mono ?_); rintro e wx ⟨rfl, hx⟩; dsimp only) | (go_at_call 30; (with_reducible refine (KY.out _ _ hx).mono ?_); rintro e wx ⟨v5, rfl, A5, c5, L5, rfl, hr5, hx⟩; have hcv5 := HCX.out wx A5 c5 (hr5.src fun p hp => hx.own p (by simp [hp])); (try have hcv6 := HCX.out wx A6 c6 (hr6.src fun p hp => hx.own p (by simp [hp]))); dsimp only) | (go_at_call 31; (with_reducible refine (KY'.out _ _ hx).mono ?_); rintro e wx ⟨v6, rfl, A6, c6, L6, rfl, hr6, hx⟩; have hcv6 := HCX.out wx A6 c6 (hr6.src fun p hp => hx.own p (by simp [hp])); (try have hcv5 := HCX.out wx A5 c5 (hr5.src fun p hp => hx.own p (by simp [hp]))); dsimp only) | (go_at_call 32; (with_reducible refine (KT.out _ _ hx).mono ?_); rintro e wx ⟨rfl, hx⟩; dsimp only) | (go_at_call 33; (with_reducible refine (KT'.out _ _ hx).mono ?_); rintro e wx ⟨rfl, hx⟩; dsimp only))
                refine hK.out _ _ ?_ (fun hHeld => ?_)
                · (try dsimp only) <;> (exact SX.out _ _ hx (by simp))
                clear hK K
                try simp only [Act.put, List.setIfInBounds_toArray, List.set_cons_zero, List.set_cons_succ]
                try simp only [F0.out, F1.out, F2.out, F3.out]
                refine wpAnyH_ready (rs := [18]) (by kernel_rfl) (by simp) ?_
                refine AllReadyH.cons (o := ?_) ?_ (fun K hK => ?_) ?_
                rotate_left 1
                · (simp only [List.getElem?_toArray, List.getElem?_cons_succ, List.getElem?_cons_zero]; exact rfl)
                · go_simp
                  refine hK.out _ _ ?_ (fun hHeld => ?_)
                  · (try dsimp only) <;> (exact SX.out _ _ hx (by simp))
                  clear hK K
                  try simp only [Act.put, List.setIfInBounds_toArray, List.set_cons_zero, List.set_cons_succ]
                  try simp only [F0.out, F1.out, F2.out, F3.out]
                  refine wpAnyH_take (i := 19) (oi := ?_) (v := ?_) ?_ ?_ ?_ ?_ ?_ ?_ ?_ ?_
                  rotate_left 2
                  · (simp only [List.getElem?_toArray, List.getElem?_cons_succ, List.getElem?_cons_zero]; exact rfl)
                  · kernel_rfl
                  · kernel_rfl
                  · kernel_rfl
                  · exact fun _ _ _ h => h
                  · first | (refine Or.inl ⟨by rfl, ?_⟩; intro w hSw; (try dsimp only at hSw); go_simp; try with_reducible rfl) | (refine Or.inr ⟨by rfl, ?_⟩; rfl)
                  · assumption
                  try simp only [Act.put, List.setIfInBounds_toArray, List.set_cons_zero, List.set_cons_succ]
                  try simp only [F0.out, F1.out, F2.out, F3.out]
                  refine wpAnyH_take (i := 20) (oi := ?_) (v := ?_) ?_ ?_ ?_ ?_ ?_ ?_ ?_ ?_
                  rotate_left 2
                  · (simp only [List.getElem?_toArray, List.getElem?_cons_succ, List.getElem?_cons_zero]; exact rfl)
                  · kernel_rfl
                  · kernel_rfl
                  · kernel_rfl
                  · exact fun _ _ _ h => h
                  · first | (refine Or.inl ⟨by rfl, ?_⟩; intro w hSw; (try dsimp only at hSw); go_simp; try with_reducible rfl) | (refine Or.inr ⟨by rfl, ?_⟩; rfl)
                  · assumption
                  try simp only [Act.put, List.setIfInBounds_toArray, List.set_cons_zero, List.set_cons_succ]
                  try simp only [F0.out, F1.out, F2.out, F3.out]
                  refine wpAnyH_take (i := 21) (oi := ?_) (v := ?_) ?_ ?_ ?_ ?_ ?_ ?_ ?_ ?_
                  rotate_left 2
                  · (simp only [List.getElem?_toArray, List.getElem?_cons_succ, List.getElem?_cons_zero]; exact rfl)
                  · kernel_rfl
                  · kernel_rfl
                  · kernel_rfl
                  · exact fun _ _ _ h => h
                  · first | (refine Or.inl ⟨by rfl, ?_⟩; intro w hSw; (try dsimp only at hSw); go_simp; try with_reducible rfl) | (refine Or.inr ⟨by rfl, ?_⟩; rfl)
                  · assumption
                  try simp only [Act.put, List.setIfInBounds_toArray, List.set_cons_zero, List.set_cons_succ]
                  try simp only [F0.out, F1.out, F2.out, F3.out]
                  refine wpAnyH_take (i := 22) (oi := ?_) (v := ?_) ?_ ?_ ?_ ?_ ?_ ?_ ?_ ?_
                  rotate_left 2
                  · (simp only [List.getElem?_toArray, List.getElem?_cons_succ, List.getElem?_cons_zero]; exact rfl)
                  · kernel_rfl
                  · kernel_rfl
                  · kernel_rfl
                  · exact fun _ _ _ h => h
                  · first | (first | ((refine yieldsIf_load_mid ?_ 26 (.tmp 1) ?_ b 0 ?_ s.cells.toList _ ?_ HUL.out ?_ HMA.out) <;> first | rfl | exact fun w h => h) | (refine Or.inl ⟨by rfl, ?_⟩; intro w hSw; (try dsimp only at hSw); go_simp; try with_reducible rfl)) | (refine Or.inr ⟨by rfl, ?_⟩; rfl)
                  · assumption
                  try simp only [Act.put, List.setIfInBounds_toArray, List.set_cons_zero, List.set_cons_succ]
                  try simp only [F0.out, F1.out, F2.out, F3.out]
                  refine wpAnyH_take (i := 24) (oi := ?_) (v := ?_) ?_ ?_ ?_ ?_ ?_ ?_ ?_ ?_
                  rotate_left 2
                  · (simp only [List.getElem?_toArray, List.getElem?_cons_succ, List.getElem?_cons_zero]; exact rfl)
                  · kernel_rfl
                  · kernel_rfl
                  · kernel_rfl
                  · exact fun _ _ _ h => h
                  · first | (first | ((refine yieldsIf_load_mid ?_ 26 (.tmp 1) ?_ b 0 ?_ s.cells.toList _ ?_ HUL.out ?_ HMA.out) <;> first | rfl | exact fun w h => h) | (refine Or.inl ⟨by rfl, ?_⟩; intro w hSw; (try dsimp only at hSw); go_simp; try with_reducible rfl)) | (refine Or.inr ⟨by rfl, ?_⟩; rfl)
                  · assumption
                  try simp only [Act.put, List.setIfInBounds_toArray, List.set_cons_zero, List.set_cons_succ]
                  try simp only [F0.out, F1.out, F2.out, F3.out]
                  refine wpAnyH_ready (rs := [23]) (by kernel_rfl) (by simp) ?_
                  refine AllReadyH.cons (o := ?_) ?_ (fun K hK => ?_) ?_
                  rotate_left 1
                  · (simp only [List.getElem?_toArray, List.getElem?_cons_succ, List.getElem?_cons_zero]; exact rfl)
                  · go_simp
                    (first | (go_at_call 28; (with_reducible refine (KR.out _ _ hx).mono ?_); rintro e wx ⟨rfl, hx⟩; dsimp only) | (go_at_call 16; (with_reducible refine (KR'.out _ _ hx).mono ?_); rintro e wx ⟨rfl, hx⟩; dsimp only) | (go_at_call 23; (with_reducible refine (KB.out _ _ hx).mono ?_); rintro e wx ⟨rfl, hx⟩; dsimp only) | (go_at_call 29; (with_reducible refine (KB'.out _ _ hx).mono ?_); rintro e wx ⟨rfl, hx⟩; dsimp only) | (go_at_call 30; (with_reducible refine (KY.out _ _ hx).mono ?_); rintro e wx ⟨v5, rfl, A5, c5, L5, rfl, hr5, hx⟩; have hcv5 := HCX.out wx A5 c5 (hr5.src fun p hp => hx.own p (by simp [hp])); (try have hcv6 := HCX.out wx A6 c6 (hr6.src fun p hp => hx.own p (by simp [hp]))); dsimp only) | (go_at_call 31; (with_reducible refine (KY'.out _ _ hx).mono ?_); rintro e wx ⟨v6, rfl, A6, c6, L6, rfl, hr6, hx⟩; have hcv6 := HCX.out wx A6 c6 (hr6.src fun p hp => hx.own p (by simp [hp])); (try have hcv5 := HCX.out wx A5 c5 (hr5.src fun p hp => hx.own p (by simp [hp]))); dsimp only) | (go_at_call 32; (with_reducible refine (KT.out _ _ hx).mono ?_); rintro e wx ⟨rfl, hx⟩; dsimp only) | (go_at_call 33; (with_reducible refine (KT'.out _ _ hx).mono ?_); rintro e wx ⟨rfl, hx⟩; dsimp only))
                    refine hK.out _ _ ?_ (fun hHeld => ?_)
                    · (try dsimp only) <;> (exact SX.out _ _ hx (by simp))
                    clear hK K
                    try simp only [Act.put, List.setIfInBounds_toArray, List.set_cons_zero, List.set_cons_succ]
                    try simp only [F0.out, F1.out, F2.out, F3.out]
                    refine wpAnyH_ready (rs := [25]) (by kernel_rfl) (by simp) ?_
                    refine AllReadyH.cons (o := ?_) ?_ (fun K hK => ?_) ?_
                    rotate_left 1
                    · (simp only [List.getElem?_toArray, List.getElem?_cons_succ, List.getElem?_cons_zero]; exact rfl)
                    · go_simp
                      (first | (go_at_call 28; (with_reducible refine (KR.out _ _ hx).mono ?_); rintro e wx ⟨rfl, hx⟩; dsimp only) | (go_at_call 16; (with_reducible refine (KR'.out _ _ hx).mono ?_); rintro e wx ⟨rfl, hx⟩; dsimp only) | (go_at_call 23; (with_reducible refine (KB.out _ _ hx).mono ?_); rintro e wx ⟨rfl, hx⟩; dsimp only) | (go_at_call 29; (with_reducible refine (KB'.out _ _ hx).mono ?_); rintro e wx ⟨rfl, hx⟩; dsimp only) | (go_at_call 30; (with_reducible refine (KY.out _ _ hx).mono ?_); rintro e wx ⟨v5, rfl, A5, c5, L5, rfl, hr5, hx⟩; have hcv5 := HCX.out wx A5 c5 (hr5.src fun p hp => hx.own p (by simp [hp])); (try have hcv6 := HCX.out wx A6 c6 (hr6.src fun p hp => hx.own p (by simp [hp]))); dsimp only) | (go_at_call 31; (with_reducible refine (KY'.out _ _ hx).mono ?_); rintro e wx ⟨v6, rfl, A6, c6, L6, rfl, hr6, hx⟩; have hcv6 := HCX.out wx A6 c6 (hr6.src fun p hp => hx.own p (by simp [hp])); (try have hcv5 := HCX.out wx A5 c5 (hr5.src fun p hp => hx.own p (by simp [hp]))); dsimp only) | (go_at_call 32; (with_reducible refine (KT.out _ _ hx).mono ?_); rintro e wx ⟨rfl, hx⟩; dsimp only) | (go_at_call 33; (with_reducible refine (KT'.out _ _ hx).mono ?_); rintro e wx ⟨rfl, hx⟩; dsimp only))
                      refine hK.out _ _ ?_ (fun hHeld => ?_)
                      · (try dsimp only) <;> (exact SX.out _ _ hx (by simp))
                      clear hK K
                      try simp only [Act.put, List.setIfInBounds_toArray, List.set_cons_zero, List.set_cons_succ]
                      try simp only [F0.out, F1.out, F2.out, F3.out]
                      refine wpAnyH_take (i := 26) (oi := ?_) (v := ?_) ?_ ?_ ?_ ?_ ?_ ?_ ?_ ?_
                      rotate_left 2
                      · (simp only [List.getElem?_toArray, List.getElem?_cons_succ, List.getElem?_cons_zero]; exact rfl)
                      · kernel_rfl
                      · kernel_rfl
                      · kernel_rfl
                      · exact fun _ _ _ h => h
                      · first | (refine Or.inl ⟨by rfl, ?_⟩; intro w hSw; (try dsimp only at hSw); go_simp; try with_reducible rfl) | (refine Or.inr ⟨by rfl, ?_⟩; rfl)
                      · assumption
                      try simp only [Act.put, List.setIfInBounds_toArray, List.set_cons_zero, List.set_cons_succ]
                      try simp only [F0.out, F1.out, F2.out, F3.out]
                      refine wpAnyH_take (i := 27) (oi := ?_) (v := ?_) ?_ ?_ ?_ ?_ ?_ ?_ ?_ ?_
                      rotate_left 2
                      · (simp only [List.getElem?_toArray, List.getElem?_cons_succ, List.getElem?_cons_zero]; exact rfl)
                      · kernel_rfl
                      · kernel_rfl
                      · kernel_rfl
                      · exact fun _ _ _ h => h
                      · first | (refine Or.inl ⟨by rfl, ?_⟩; intro w hSw; (try dsimp only at hSw); go_simp; try with_reducible rfl) | (refine Or.inr ⟨by rfl, ?_⟩; rfl)
                      · assumption
                      try simp only [Act.put, List.setIfInBounds_toArray, List.set_cons_zero, List.set_cons_succ]
                      try simp only [F0.out, F1.out, F2.out, F3.out]
                      refine wpAnyH_take (i := 28) (oi := ?_) (v := ?_) ?_ ?_ ?_ ?_ ?_ ?_ ?_ ?_
                      rotate_left 2
                      · (simp only [List.getElem?_toArray, List.getElem?_cons_succ, List.getElem?_cons_zero]; exact rfl)
                      · kernel_rfl
                      · kernel_rfl
                      · kernel_rfl
                      · exact fun _ _ _ h => h
                      · first | (refine Or.inl ⟨by rfl, ?_⟩; intro w hSw; (try dsimp only at hSw); go_simp; try with_reducible rfl) | (refine Or.inr ⟨by rfl, ?_⟩; rfl)
                      · assumption
                      try simp only [Act.put, List.setIfInBounds_toArray, List.set_cons_zero, List.set_cons_succ]
                      try simp only [F0.out, F1.out, F2.out, F3.out]
                      refine wpAnyH_done (by kernel_rfl) ?_ _
                      have HF : Hid (Below W.heap.size W _) := Lib.hid (hx.below (Le.refl _))
                      go_wp2_with fail
                      go_ret
                      exact ⟨rfl, HF.out⟩
                    exact AllReadyH.nil
                  exact AllReadyH.nil
                exact AllReadyH.nil
              exact AllReadyH.nil
            refine AllReadyH.cons (o := ?_) ?_ (fun K hK => ?_) ?_
            rotate_left 1
            · (simp only [List.getElem?_toArray, List.getElem?_cons_succ, List.getElem?_cons_zero]; exact rfl)
            · go_simp
              (first | (go_at_call 28; (with_reducible refine (KR.out _ _ hx).mono ?_); rintro e wx ⟨rfl, hx⟩; dsimp only) | (go_at_call 16; (with_reducible refine (KR'.out _ _ hx).mono ?_); rintro e wx ⟨rfl, hx⟩; dsimp only) | (go_at_call 23; (with_reducible refine (KB.out _ _ hx).mono ?_); rintro e wx ⟨rfl, hx⟩; dsimp only) | (go_at_call 29; (with_reducible refine (KB'.out _ _ hx).mono ?_); rintro e wx ⟨rfl, hx⟩; dsimp only) | (go_at_call 30; (with_reducible refine (KY.out _ _ hx).mono ?_); rintro e wx ⟨v5, rfl, A5, c5, L5, rfl, hr5, hx⟩; have hcv5 := HCX.out wx A5 c5 (hr5.src fun p hp => hx.own p (by simp [hp])); (try have hcv6 := HCX.out wx A6 c6 (hr6.src fun p hp => hx.own p (by simp [hp]))); dsimp only) | (go_at_call 31; (with_reducible refine (KY'.out _ _ hx).mono ?_); rintro e wx ⟨v6, rfl, A6, c6, L6, rfl, hr6, hx⟩; have hcv6 := HCX.out wx A6 c6 (hr6.src fun p hp => hx.own p (by simp [hp])); (try have hcv5 := HCX.out wx A5 c5 (hr5.src fun p hp => hx.own p (by simp [hp]))); dsimp only) | (go_at_call 32; (with_reducible refine (KT.out _ _ hx).mono ?_); rintro e wx ⟨rfl, hx⟩; dsimp only) | (go_at_call 33; (with_reducible refine (KT'.out _ _ hx).mono ?_); rintro e wx ⟨rfl, hx⟩; dsimp only))
              refine hK.out _ _ ?_ (fun hHeld => ?_)
              · (try dsimp only) <;> (exact SX.out _ _ hx (by simp))
              clear hK K
              try simp only [Act.put, List.setIfInBounds_toArray, List.set_cons_zero, List.set_cons_succ]
              try simp only [F0.out, F1.out, F2.out, F3.out]
              refine wpAnyH_ready (rs := [15, 18]) (by kernel_rfl) (by simp) ?_
              refine AllReadyH.cons (o := ?_) ?_ (fun K hK => ?_) ?_
              rotate_left 1
              · (simp only [List.getElem?_toArray, List.getElem?_cons_succ, List.getElem?_cons_zero]; exact rfl)
              · go_simp
                refine hK.out _ _ ?_ (fun hHeld => ?_)
                · (try dsimp only) <;> (exact SX.out _ _ hx (by simp))
                clear hK K
                try simp only [Act.put, List.setIfInBounds_toArray, List.set_cons_zero, List.set_cons_succ]
                try simp only [F0.out, F1.out, F2.out, F3.out]
                refine wpAnyH_ready (rs := [18]) (by kernel_rfl) (by simp) ?_
                refine AllReadyH.cons (o := ?_) ?_ (fun K hK => ?_) ?_
                rotate_left 1
                · (simp only [List.getElem?_toArray, List.getElem?_cons_succ, List.getElem?_cons_zero]; exact rfl)
                · go_simp
                  refine hK.out _ _ ?_ (fun hHeld => ?_)
                  · (try dsimp only) <;> (exact SX.out _ _ hx (by simp))
                  clear hK K
                  try simp only [Act.put, List.setIfInBounds_toArray, List.set_cons_zero, List.set_cons_succ]
                  try simp only [F0.out, F1.out, F2.out, F3.out]
                  refine wpAnyH_take (i := 19) (oi := ?_) (v := ?_) ?_ ?_ ?_ ?_ ?_ ?_ ?_ ?_
                  rotate_left 2
                  · (simp only [List.getElem?_toArray, List.getElem?_cons_succ, List.getElem?_cons_zero]; exact rfl)
                  · kernel_rfl
                  · kernel_rfl
                  · kernel_rfl
                  · exact fun _ _ _ h => h
                  · first | (refine Or.inl ⟨by rfl, ?_⟩; intro w hSw; (try dsimp only at hSw); go_simp; try with_reducible rfl) | (refine Or.inr ⟨by rfl, ?_⟩; rfl)
                  · assumption
                  try simp only [Act.put, List.setIfInBounds_toArray, List.set_cons_zero, List.set_cons_succ]
                  try simp only [F0.out, F1.out, F2.out, F3.out]
                  refine wpAnyH_take (i := 20) (oi := ?_) (v := ?_) ?_ ?_ ?_ ?_ ?_ ?_ ?_ ?_
                  rotate_left 2
                  · (simp only [List.getElem?_toArray, List.getElem?_cons_succ, List.getElem?_cons_zero]; exact rfl)
                  · kernel_rfl
                  · kernel_rfl
                  · kernel_rfl
                  · exact fun _ _ _ h => h
                  · first | (refine Or.inl ⟨by rfl, ?_⟩; intro w hSw; (try dsimp only at hSw); go_simp; try with_reducible rfl) | (refine Or.inr ⟨by rfl, ?_⟩; rfl)
                  · assumption
                  try simp only [Act.put, List.setIfInBounds_toArray, List.set_cons_zero, List.set_cons_succ]
                  try simp only [F0.out, F1.out, F2.out, F3.out]
                  refine wpAnyH_take (i := 21) (oi := ?_) (v := ?_) ?_ ?_ ?_ ?_ ?_ ?_ ?_ ?_
                  rotate_left 2
                  · (simp only [List.getElem?_toArray, List.getElem?_cons_succ, List.getElem?_cons_zero]; exact rfl)
                  · kernel_rfl
                  · kernel_rfl
                  · kernel_rfl
                  · exact fun _ _ _ h => h
                  · first | (refine Or.inl ⟨by rfl, ?_⟩; intro w hSw; (try dsimp only at hSw); go_simp; try with_reducible rfl) | (refine Or.inr ⟨by rfl, ?_⟩; rfl)
                  · assumption
                  try simp only [Act.put, List.setIfInBounds_toArray, List.set_cons_zero, List.set_cons_succ]
                  try simp only [F0.out, F1.out, F2.out, F3.out]
                  refine wpAnyH_take (i := 22) (oi := ?_) (v := ?_) ?_ ?_ ?_ ?_ ?_ ?_ ?_ ?_
                  rotate_left 2
                  · (simp only [List.getElem?_toArray, List.getElem?_cons_succ, List.getElem?_cons_zero]; exact rfl)
                  · kernel_rfl
                  · kernel_rfl
                  · kernel_rfl
                  · exact fun _ _ _ h => h
                  · first | (first | ((refine yieldsIf_load_mid ?_ 26 (.tmp 1) ?_ b 0 ?_ s.cells.toList _ ?_ HUL.out ?_ HMA.out) <;> first | rfl | exact fun w h => h) | (refine Or.inl ⟨by rfl, ?_⟩; intro w hSw; (try dsimp only at hSw); go_simp; try with_reducible rfl)) | (refine Or.inr ⟨by rfl, ?_⟩; rfl)
                  · assumption
                  try simp only [Act.put, List.setIfInBounds_toArray, List.set_cons_zero, List.set_cons_succ]
                  try simp only [F0.out, F1.out, F2.out, F3.out]
                  refine wpAnyH_take (i := 24) (oi := ?_) (v := ?_) ?_ ?_ ?_ ?_ ?_ ?_ ?_ ?_
                  rotate_left 2
                  · (simp only [List.getElem?_toArray, List.getElem?_cons_succ, List.getElem?_cons_zero]; exact rfl)
                  · kernel_rfl
                  · kernel_rfl
                  · kernel_rfl
                  · exact fun _ _ _ h => h
                  · first | (first | ((refine yieldsIf_load_mid ?_ 26 (.tmp 1) ?_ b 0 ?_ s.cells.toList _ ?_ HUL.out ?_ HMA.out) <;> first | rfl | exact fun w h => h) | (refine Or.inl ⟨by rfl, ?_⟩; intro w hSw; (try dsimp only at hSw); go_simp; try with_reducible rfl)) | (refine Or.inr ⟨by rfl, ?_⟩; rfl)
                  · assumption
                  try simp only [Act.put, List.setIfInBounds_toArray, List.set_cons_zero, List.set_cons_succ]
                  try simp only [F0.out, F1.out, F2.out, F3.out]
                  refine wpAnyH_ready (rs := [23]) (by kernel_rfl) (by simp) ?_
                  refine AllReadyH.cons (o := ?_) ?_ (fun K hK => ?_) ?_
                  rotate_left 1
                  · (simp only [List.getElem?_toArray, List.getElem?_cons_succ, List.getElem?_cons_zero]; exact rfl)
                  · go_simp
                    (first | (go_at_call 28; (with_reducible refine (KR.out _ _ hx).mono ?_); rintro e wx ⟨rfl, hx⟩; dsimp only) | (go_at_call 16; (with_reducible refine (KR'.out _ _ hx).mono ?_); rintro e wx ⟨rfl, hx⟩; dsimp only) | (go_at_call 23; (with_reducible refine (KB.out _ _ hx).mono ?_); rintro e wx ⟨rfl, hx⟩; dsimp only) | (go_at_call 29; (with_reducible refine (KB'.out _ _ hx).mono ?_); rintro e wx ⟨rfl, hx⟩; dsimp only) | (go_at_call 30; (with_reducible refine (KY.out _ _ hx).mono ?_); rintro e wx ⟨v5, rfl, A5, c5, L5, rfl, hr5, hx⟩; have hcv5 := HCX.out wx A5 c5 (hr5.src fun p hp => hx.own p (by simp [hp])); (try have hcv6 := HCX.out wx A6 c6 (hr6.src fun p hp => hx.own p (by simp [hp]))); dsimp only) | (go_at_call 31; (with_reducible refine (KY'.out _ _ hx).mono ?_); rintro e wx ⟨v6, rfl, A6, c6, L6, rfl, hr6, hx⟩; have hcv6 := HCX.out wx A6 c6 (hr6.src fun p hp => hx.own p (by simp [hp])); (try have hcv5 := HCX.out wx A5 c5 (hr5.src fun p hp => hx.own p (by simp [hp]))); dsimp only) | (go_at_call 32; (with_reducible refine (KT.out _ _ hx).mono ?_); rintro e wx ⟨rfl, hx⟩; dsimp only) | (go_at_call 33; (with_reducible refine (KT'.out _ _ hx).mono ?_); rintro e wx ⟨rfl, hx⟩; dsimp only))
                    refine hK.out _ _ ?_ (fun hHeld => ?_)
                    · (try dsimp only) <;> (exact SX.out _ _ hx (by simp))
                    clear hK K
                    try simp only [Act.put, List.setIfInBounds_toArray, List.set_cons_zero, List.set_cons_succ]
                    try simp only [F0.out, F1.out, F2.out, F3.out]
                    refine wpAnyH_ready (rs := [25]) (by kernel_rfl) (by simp) ?_
                    refine AllReadyH.cons (o := ?_) ?_ (fun K hK => ?_) ?_
                    rotate_left 1
                    · (simp only [List.getElem?_toArray, List.getElem?_cons_succ, List.getElem?_cons_zero]; exact rfl)
                    · go_simp
                      (first | (go_at_call 28; (with_reducible refine (KR.out _ _ hx).mono ?_); rintro e wx ⟨rfl, hx⟩; dsimp only) | (go_at_call 16; (with_reducible refine (KR'.out _ _ hx).mono ?_); rintro e wx ⟨rfl, hx⟩; dsimp only) | (go_at_call 23; (with_reducible refine (KB.out _ _ hx).mono ?_); rintro e wx ⟨rfl, hx⟩; dsimp only) | (go_at_call 29; (with_reducible refine (KB'.out _ _ hx).mono ?_); rintro e wx ⟨rfl, hx⟩; dsimp only) | (go_at_call 30; (with_reducible refine (KY.out _ _ hx).mono ?_); rintro e wx ⟨v5, rfl, A5, c5, L5, rfl, hr5, hx⟩; have hcv5 := HCX.out wx A5 c5 (hr5.src fun p hp => hx.own p (by simp [hp])); (try have hcv6 := HCX.out wx A6 c6 (hr6.src fun p hp => hx.own p (by simp [hp]))); dsimp only) | (go_at_call 31; (with_reducible refine (KY'.out _ _ hx).mono ?_); rintro e wx ⟨v6, rfl, A6, c6, L6, rfl, hr6, hx⟩; have hcv6 := HCX.out wx A6 c6 (hr6.src fun p hp => hx.own p (by simp [hp])); (try have hcv5 := HCX.out wx A5 c5 (hr5.src fun p hp => hx.own p (by simp [hp]))); dsimp only) | (go_at_call 32; (with_reducible refine (KT.out _ _ hx).mono ?_); rintro e wx ⟨rfl, hx⟩; dsimp only) | (go_at_call 33; (with_reducible refine (KT'.out _ _ hx).mono ?_); rintro e wx ⟨rfl, hx⟩; dsimp only))
                      refine hK.out _ _ ?_ (fun hHeld => ?_)
                      · (try dsimp only) <;> (exact SX.out _ _ hx (by simp))
                      clear hK K
                      try simp only [Act.put, List.setIfInBounds_toArray, List.set_cons_zero, List.set_cons_succ]
                      try simp only [F0.out, F1.out, F2.out, F3.out]
                      refine wpAnyH_take (i := 26) (oi := ?_) (v := ?_) ?_ ?_ ?_ ?_ ?_ ?_ ?_ ?_
                      rotate_left 2
                      · (simp only [List.getElem?_toArray, List.getElem?_cons_succ, List.getElem?_cons_zero]; exact rfl)
                      · kernel_rfl
                      · kernel_rfl
                      · kernel_rfl
                      · exact fun _ _ _ h => h
                      · first | (refine Or.inl ⟨by rfl, ?_⟩; intro w hSw; (try dsimp only at hSw); go_simp; try with_reducible rfl) | (refine Or.inr ⟨by rfl, ?_⟩; rfl)
                      · assumption
                      try simp only [Act.put, List.setIfInBounds_toArray, List.set_cons_zero, List.set_cons_succ]
                      try simp only [F0.out, F1.out, F2.out, F3.out]
                      refine wpAnyH_take (i := 27) (oi := ?_) (v := ?_) ?_ ?_ ?_ ?_ ?_ ?_ ?_ ?_
                      rotate_left 2
                      · (simp only [List.getElem?_toArray, List.getElem?_cons_succ, List.getElem?_cons_zero]; exact rfl)
                      · kernel_rfl
                      · kernel_rfl
                      · kernel_rfl
                      · exact fun _ _ _ h => h
                      · first | (refine Or.inl ⟨by rfl, ?_⟩; intro w hSw; (try dsimp only at hSw); go_simp; try with_reducible rfl) | (refine Or.inr ⟨by rfl, ?_⟩; rfl)
                      · assumption
                      try simp only [Act.put, List.setIfInBounds_toArray, List.set_cons_zero, List.set_cons_succ]
                      try simp only [F0.out, F1.out, F2.out, F3.out]
                      refine wpAnyH_take (i := 28) (oi := ?_) (v := ?_) ?_ ?_ ?_ ?_ ?_ ?_ ?_ ?_
                      rotate_left 2
                      · (simp only [List.getElem?_toArray, List.getElem?_cons_succ, List.getElem?_cons_zero]; exact rfl)
                      · kernel_rfl
                      · kernel_rfl
                      · kernel_rfl
                      · exact fun _ _ _ h => h
                      · first | (refine Or.inl ⟨by rfl, ?_⟩; intro w hSw; (try dsimp only at hSw); go_simp; try with_reducible rfl) | (refine Or.inr ⟨by rfl, ?_⟩; rfl)
                      · assumption
                      try simp only [Act.put, List.setIfInBounds_toArray, List.set_cons_zero, List.set_cons_succ]
                      try simp only [F0.out, F1.out, F2.out, F3.out]
                      refine wpAnyH_done (by kernel_rfl) ?_ _
                      have HF : Hid (Below W.heap.size W _) := Lib.hid (hx.below (Le.refl _))
                      go_wp2_with fail
                      go_ret
                      exact ⟨rfl, HF.out⟩
                    exact AllReadyH.nil
                  exact AllReadyH.nil
                exact AllReadyH.nil
              refine AllReadyH.cons (o := ?_) ?_ (fun K hK => ?_) ?_
              rotate_left 1
              · (simp only [List.getElem?_toArray, List.getElem?_cons_succ, List.getElem?_cons_zero]; exact rfl)
              · go_simp
                refine hK.out _ _ ?_ (fun hHeld => ?_)
                · (try dsimp only) <;> (exact SX.out _ _ hx (by simp))
                clear hK K
                try simp only [Act.put, List.setIfInBounds_toArray, List.set_cons_zero, List.set_cons_succ]
                try simp only [F0.out, F1.out, F2.out, F3.out]
                refine wpAnyH_ready (rs := [15]) (by kernel_rfl) (by simp) ?_
                refine AllReadyH.cons (o := ?_) ?_ (fun K hK => ?_) ?_
                rotate_left 1
                · (simp only [List.getElem?_toArray, List.getElem?_cons_succ, List.getElem?_cons_zero]; exact rfl)
                · go_simp
                  refine hK.out _ _ ?_ (fun hHeld => ?_)
                  · (try dsimp only) <;> (exact SX.out _ _ hx (by simp))
                  clear hK K
                  try simp only [Act.put, List.setIfInBounds_toArray, List.set_cons_zero, List.set_cons_succ]
                  try simp only [F0.out, F1.out, F2.out, F3.out]
                  refine wpAnyH_take (i := 19) (oi := ?_) (v := ?_) ?_ ?_ ?_ ?_ ?_ ?_ ?_ ?_
                  rotate_left 2
                  · (simp only [List.getElem?_toArray, List.getElem?_cons_succ, List.getElem?_cons_zero]; exact rfl)
                  · kernel_rfl
                  · kernel_rfl
                  · kernel_rfl
                  · exact fun _ _ _ h => h
                  · first | (refine Or.inl ⟨by rfl, ?_⟩; intro w hSw; (try dsimp only at hSw); go_simp; try with_reducible rfl) | (refine Or.inr ⟨by rfl, ?_⟩; rfl)
                  · assumption
                  try simp only [Act.put, List.setIfInBounds_toArray, List.set_cons_zero, List.set_cons_succ]
                  try simp only [F0.out, F1.out, F2.out, F3.out]
                  refine wpAnyH_take (i := 20) (oi := ?_) (v := ?_) ?_ ?_ ?_ ?_ ?_ ?_ ?_ ?_
                  rotate_left 2
                  · (simp only [List.getElem?_toArray, List.getElem?_cons_succ, List.getElem?_cons_zero]; exact rfl)
                  · kernel_rfl
                  · kernel_rfl
                  · kernel_rfl
                  · exact fun _ _ _ h => h
                  · first | (refine Or.inl ⟨by rfl, ?_⟩; intro w hSw; (try dsimp only at hSw); go_simp; try with_reducible rfl) | (refine Or.inr ⟨by rfl, ?_⟩; rfl)
                  · assumption
                  try simp only [Act.put, List.setIfInBounds_toArray, List.set_cons_zero, List.set_cons_succ]
                  try simp only [F0.out, F1.out, F2.out, F3.out]
                  refine wpAnyH_take (i := 21) (oi := ?_) (v := ?_) ?_ ?_ ?_ ?_ ?_ ?_ ?_ ?_
                  rotate_left 2
                  · (simp only [List.getElem?_toArray, List.getElem?_cons_succ, List.getElem?_cons_zero]; exact rfl)
                  · kernel_rfl
                  · kernel_rfl
                  · kernel_rfl
                  · exact fun _ _ _ h => h
                  · first | (refine Or.inl ⟨by rfl, ?_⟩; intro w hSw; (try dsimp only at hSw); go_simp; try with_reducible rfl) | (refine Or.inr ⟨by rfl, ?_⟩; rfl)
                  · assumption
                  try simp only [Act.put, List.setIfInBounds_toArray, List.set_cons_zero, List.set_cons_succ]
                  try simp only [F0.out, F1.out, F2.out, F3.out]
                  refine wpAnyH_take (i := 22) (oi := ?_) (v := ?_) ?_ ?_ ?_ ?_ ?_ ?_ ?_ ?_
                  rotate_left 2
                  · (simp only [List.getElem?_toArray, List.getElem?_cons_succ, List.getElem?_cons_zero]; exact rfl)
                  · kernel_rfl
                  · kernel_rfl
                  · kernel_rfl
                  · exact fun _ _ _ h => h
                  · first | (first | ((refine yieldsIf_load_mid ?_ 26 (.tmp 1) ?_ b 0 ?_ s.cells.toList _ ?_ HUL.out ?_ HMA.out) <;> first | rfl | exact fun w h => h) | (refine Or.inl ⟨by rfl, ?_⟩; intro w hSw; (try dsimp only at hSw); go_simp; try with_reducible rfl)) | (refine Or.inr ⟨by rfl, ?_⟩; rfl)
                  · assumption
                  try simp only [Act.put, List.setIfInBounds_toArray, List.set_cons_zero, List.set_cons_succ]
                  try simp only [F0.out, F1.out, F2.out, F3.out]
                  refine wpAnyH_take (i := 24) (oi := ?_) (v := ?_) ?_ ?_ ?_ ?_ ?_ ?_ ?_ ?_
                  rotate_left 2
                  · (simp only [List.getElem?_toArray, List.getElem?_cons_succ, List.getElem?_cons_zero]; exact rfl)
                  · kernel_rfl
                  · kernel_rfl
                  · kernel_rfl
                  · exact fun _ _ _ h => h
                  · first | (first | ((refine yieldsIf_load_mid ?_ 26 (.tmp 1) ?_ b 0 ?_ s.cells.toList _ ?_ HUL.out ?_ HMA.out) <;> first | rfl | exact fun w h => h) | (refine Or.inl ⟨by rfl, ?_⟩; intro w hSw; (try dsimp only at hSw); go_simp; try with_reducible rfl)) | (refine Or.inr ⟨by rfl, ?_⟩; rfl)
                  · assumption
                  try simp only [Act.put, List.setIfInBounds_toArray, List.set_cons_zero, List.set_cons_succ]
                  try simp only [F0.out, F1.out, F2.out, F3.out]
                  refine wpAnyH_ready (rs := [23]) (by kernel_rfl) (by simp) ?_
                  refine AllReadyH.cons (o := ?_) ?_ (fun K hK => ?_) ?_
                  rotate_left 1
                  · (simp only [List.getElem?_toArray, List.getElem?_cons_succ, List.getElem?_cons_zero]; exact rfl)
                  · go_simp
                    (first | (go_at_call 28; (with_reducible refine (KR.out _ _ hx).mono ?_); rintro e wx ⟨rfl, hx⟩; dsimp only) | (go_at_call 16; (with_reducible refine (KR'.out _ _ hx).mono ?_); rintro e wx ⟨rfl, hx⟩; dsimp only) | (go_at_call 23; (with_reducible refine (KB.out _ _ hx).mono ?_); rintro e wx ⟨rfl, hx⟩; dsimp only) | (go_at_call 29; (with_reducible refine (KB'.out _ _ hx).mono ?_); rintro e wx ⟨rfl, hx⟩; dsimp only) | (go_at_call 30; (with_reducible refine (KY.out _ _ hx).mono ?_); rintro e wx ⟨v5, rfl, A5, c5, L5, rfl, hr5, hx⟩; have hcv5 := HCX.out wx A5 c5 (hr5.src fun p hp => hx.own p (by simp [hp])); (try have hcv6 := HCX.out wx A6 c6 (hr6.src fun p hp => hx.own p (by simp [hp]))); dsimp only) | (go_at_call 31; (with_reducible refine (KY'.out _ _ hx).mono ?_); rintro e wx ⟨v6, rfl, A6, c6, L6, rfl, hr6, hx⟩; have hcv6 := HCX.out wx A6 c6 (hr6.src fun p hp => hx.own p (by simp [hp])); (try have hcv5 := HCX.out wx A5 c5 (hr5.src fun p hp => hx.own p (by simp [hp]))); dsimp only) | (go_at_call 32; (with_reducible refine (KT.out _ _ hx).mono ?_); rintro e wx ⟨rfl, hx⟩; dsimp only) | (go_at_call 33; (with_reducible refine (KT'.out _ _ hx).mono ?_); rintro e wx ⟨rfl, hx⟩; dsimp only))
                    refine hK.out _ _ ?_ (fun hHeld => ?_)
                    · (try dsimp only) <;> (exact SX.out _ _ hx (by simp))
                    clear hK K
                    try simp only [Act.put, List.setIfInBounds_toArray, List.set_cons_zero, List.set_cons_succ]
                    try simp only [F0.out, F1.out, F2.out, F3.out]
                    refine wpAnyH_ready (rs := [25]) (by kernel_rfl) (by simp) ?_
                    refine AllReadyH.cons (o := ?_) ?_ (fun K hK => ?_) ?_
                    rotate_left 1
                    · (simp only [List.getElem?_toArray, List.getElem?_cons_succ, List.getElem?_cons_zero]; exact rfl)
                    · go_simp
                      (first | (go_at_call 28; (with_reducible refine (KR.out _ _ hx).mono ?_); rintro e wx ⟨rfl, hx⟩; dsimp only) | (go_at_call 16; (with_reducible refine (KR'.out _ _ hx).mono ?_); rintro e wx ⟨rfl, hx⟩; dsimp only) | (go_at_call 23; (with_reducible refine (KB.out _ _ hx).mono ?_); rintro e wx ⟨rfl, hx⟩; dsimp only) | (go_at_call 29; (with_reducible refine (KB'.out _ _ hx).mono ?_); rintro e wx ⟨rfl, hx⟩; dsimp only) | (go_at_call 30; (with_reducible refine (KY.out _ _ hx).mono ?_); rintro e wx ⟨v5, rfl, A5, c5, L5, rfl, hr5, hx⟩; have hcv5 := HCX.out wx A5 c5 (hr5.src fun p hp => hx.own p (by simp [hp])); (try have hcv6 := HCX.out wx A6 c6 (hr6.src fun p hp => hx.own p (by simp [hp]))); dsimp only) | (go_at_call 31; (with_reducible refine (KY'.out _ _ hx).mono ?_); rintro e wx ⟨v6, rfl, A6, c6, L6, rfl, hr6, hx⟩; have hcv6 := HCX.out wx A6 c6 (hr6.src fun p hp => hx.own p (by simp [hp])); (try have hcv5 := HCX.out wx A5 c5 (hr5.src fun p hp => hx.own p (by simp [hp]))); dsimp only) | (go_at_call 32; (with_reducible refine (KT.out _ _ hx).mono ?_); rintro e wx ⟨rfl, hx⟩; dsimp only) | (go_at_call 33; (with_reducible refine (KT'.out _ _ hx).mono ?_); rintro e wx ⟨rfl, hx⟩; dsimp only))
                      refine hK.out _ _ ?_ (fun hHeld => ?_)
                      · (try dsimp only) <;> (exact SX.out _ _ hx (by simp))
                      clear hK K
                      try simp only [Act.put, List.setIfInBounds_toArray, List.set_cons_zero, List.set_cons_succ]
                      try simp only [F0.out, F1.out, F2.out, F3.out]
                      refine wpAnyH_take (i := 26) (oi := ?_) (v := ?_) ?_ ?_ ?_ ?_ ?_ ?_ ?_ ?_
                      rotate_left 2
                      · (simp only [List.getElem?_toArray, List.getElem?_cons_succ, List.getElem?_cons_zero]; exact rfl)
                      · kernel_rfl
                      · kernel_rfl
                      · kernel_rfl
                      · exact fun _ _ _ h => h
                      · first | (refine Or.inl ⟨by rfl, ?_⟩; intro w hSw; (try dsimp only at hSw); go_simp; try with_reducible rfl) | (refine Or.inr ⟨by rfl, ?_⟩; rfl)
                      · assumption
                      try simp only [Act.put, List.setIfInBounds_toArray, List.set_cons_zero, List.set_cons_succ]
                      try simp only [F0.out, F1.out, F2.out, F3.out]
                      refine wpAnyH_take (i := 27) (oi := ?_) (v := ?_) ?_ ?_ ?_ ?_ ?_ ?_ ?_ ?_
                      rotate_left 2
                      · (simp only [List.getElem?_toArray, List.getElem?_cons_succ, List.getElem?_cons_zero]; exact rfl)
                      · kernel_rfl
                      · kernel_rfl
                      · kernel_rfl
                      · exact fun _ _ _ h => h
                      · first | (refine Or.inl ⟨by rfl, ?_⟩; intro w hSw; (try dsimp only at hSw); go_simp; try with_reducible rfl) | (refine Or.inr ⟨by rfl, ?_⟩; rfl)
                      · assumption
                      try simp only [Act.put, List.setIfInBounds_toArray, List.set_cons_zero, List.set_cons_succ]
                      try simp only [F0.out, F1.out, F2.out, F3.out]
                      refine wpAnyH_take (i := 28) (oi := ?_) (v := ?_) ?_ ?_ ?_ ?_ ?_ ?_ ?_ ?_
                      rotate_left 2
                      · (simp only [List.getElem?_toArray, List.getElem?_cons_succ, List.getElem?_cons_zero]; exact rfl)
                      · kernel_rfl
                      · kernel_rfl
                      · kernel_rfl
                      · exact fun _ _ _ h => h
                      · first | (refine Or.inl ⟨by rfl, ?_⟩; intro w hSw; (try dsimp only at hSw); go_simp; try with_reducible rfl) | (refine Or.inr ⟨by rfl, ?_⟩; rfl)
                      · assumption
                      try simp only [Act.put, List.setIfInBounds_toArray, List.set_cons_zero, List.set_cons_succ]
                      try simp only [F0.out, F1.out, F2.out, F3.out]
                      refine wpAnyH_done (by kernel_rfl) ?_ _
                      have HF : Hid (Below W.heap.size W _) := Lib.hid (hx.below (Le.refl _))
                      go_wp2_with fail
                      go_ret
                      exact ⟨rfl, HF.out⟩
                    exact AllReadyH.nil
                  exact AllReadyH.nil
                exact AllReadyH.nil
              exact AllReadyH.nil
            exact AllReadyH.nil
          exact AllReadyH.nil
        exact AllReadyH.nil
      exact AllReadyH.nil
    exact AllReadyH.nil
  exact AllReadyH.nil
end Go.Proofs.YtpjfmgifddoppaaDoor
