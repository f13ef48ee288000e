/- MacTells: the walk of the law. -/
import Derived.Test.YtjkepnddmpgljaaMref
import Derived.Test.YtjkepnddmpgljaaTells
namespace Go.Proofs.Ytjkepnddmpgljaa
set_option linter.unusedVariables false
set_option linter.unusedSimpArgs false
open Go.RowKit

theorem mref_any {W w : World} {I : Nat → Option Obj} {F : List (Nat × Obj)} (key p : Part) (hk : key.In W I) (hp : p.In W I) (hkm : key.bs.length ≤ 1000) (hl : p.bs.length ≤ 2000) (hst : St W w I F) :
    Calls Try.prog 22 #[.slice key.A key.bs.length key.c, .slice p.A p.bs.length p.c] w (MRPost W I key.bs p.bs F) := by
  by_cases h : key.bs.length ≤ 64
  · exact mref_short key p hk hp h hkm hl hst
  · exact mref_long key p hk hp (by omega) hkm hl hst

set_option maxRecDepth 100000 in
set_option maxHeartbeats 8000000 in
theorem walk_macTells (W : World) {H : Type} {enc : TypeId × Value → H} {v0 v1 v2 : Value} (a0 : Arg enc Try.prog W 22 v0) (a1 : Arg enc Try.prog W 22 v1) (a2 : Arg enc Try.prog W 3 v2) :
    Calls Try.prog 7 #[v0, v1, v2] W fun e w' => e = .returned (.bool true) ∧ Below W.heap.size W w' := by
  obtain ⟨A0, n0, c0, x0, rfl, rfl, q0, m0, in0⟩ := a0.bytes Try.underlying22 Try.underlying5 (by kernel_rfl)
  obtain ⟨A1, n1, c1, x1, rfl, rfl, q1, m1, in1⟩ := a1.bytes Try.underlying22 Try.underlying5 (by kernel_rfl)
  obtain ⟨z, rfl, hwf⟩ := a2.int Try.underlying3
  obtain ⟨hlo, hhi⟩ := wf_i64 hwf
  unfold maxLen at m0 m1
  have HST0 := Lib.hid (St.start W)
  have IN0 := Lib.hid in0; have IN1 := Lib.hid in1
  clear a0 a1 a2 hwf in0 in1
  go_enter Try.func7, Try.ntmps7
  go_wp2_with fail
  refine (macAlive HST0.out).mono ?_
  rintro e w1 ⟨rfl, hst1⟩
  clear HST0
  by_cases h5 : (500 : Int) < x0.length ∨ (1000 : Int) < x1.length
  · have hfin := hst1.below (Le.refl _)
    by_cases h50 : (500 : Int) < x0.length
    · go_wp2_with fail
      go_ret
      exact ⟨rfl, hfin⟩
    · have h51 : (1000 : Int) < x1.length := by omega
      go_wp2_with fail
      go_ret
      exact ⟨rfl, hfin⟩
  have b0 : (x0.length : Int) ≤ 500 := by omega
  have b1 : (x1.length : Int) ≤ 1000 := by omega
  have N0 : x0.length ≤ 500 := by omega
  have N1 : x1.length ≤ 1000 := by omega
  obtain ⟨mz, hmz⟩ : ∃ mz : Int, mz = min z x1.length := ⟨_, rfl⟩
  obtain ⟨m, hm⟩ : ∃ m : Nat, m = (max 0 mz).toNat := ⟨_, rfl⟩
  have e1 : min z (x1.length : Int) = mz := hmz.symm
  have e2 : max 0 mz = (m : Int) := by omega
  have hmn : m ≤ x1.length := by omega
  have HST1 := Lib.hid hst1
  clear h5 hst1 hmz hm
  go_wp2_with fail
  refine (mref_any ⟨A0, c0, x0⟩ ⟨A1, c1, x1⟩ IN0.out IN1.out (by show x0.length ≤ _; omega) (by show x1.length ≤ _; omega) HST1.out).mono ?_
  rintro e w2 ⟨rfl, h2⟩
  clear HST1 e1 e2
  simp only
  obtain ⟨zz, ix, fx, ox, ex, hb⟩ := hv_facts (macOut x0 x1)
  have H2a := Lib.hid (h2.alloc (.cells #[.int .u8 0, .int .u8 0, .int .u8 0, .int .u8 0, .int .u8 0, .int .u8 0, .int .u8 0, .int .u8 0, .int .u8 0, .int .u8 0, .int .u8 0, .int .u8 0, .int .u8 0, .int .u8 0, .int .u8 0, .int .u8 0, .int .u8 0, .int .u8 0, .int .u8 0, .int .u8 0, .int .u8 0, .int .u8 0, .int .u8 0, .int .u8 0, .int .u8 0, .int .u8 0, .int .u8 0, .int .u8 0, .int .u8 0, .int .u8 0, .int .u8 0, .int .u8 0] 26))
  have etl : (x1.drop m).length = x1.length - m := by rw [List.length_drop]
  have etm : (x1.take m).length = m := by rw [List.length_take]; omega
  have E1 := eq_HV (macOut x0 x1)
  obtain ⟨ls, hls⟩ : ∃ ls : List Value, HV (macOut x0 x1) = ls.toArray := ⟨(HV (macOut x0 x1)).toList, by simp⟩
  have hll : ls.length = 32 := by
    rw [hls] at zz
    simpa using zz
  have ka := fun w n0 (hn : n0 = w.heap.size) (h : St W w (fun b => W.heap[b]?) [(w2.heap.size, .cells ls.toArray 26 (0, 0))]) => msum_new ⟨A0, c0, x0⟩ [⟨A1, c1, x1⟩] (n0 := n0) (n := 1) h hn rfl IN0.out (by show x0.length ≤ _; omega) (in_cons IN1.out in_nil) (by simp [cat]; omega) (by omega)
  rw [show cat [⟨A1, c1, x1⟩] = x1 by simp [cat]] at ka
  simp only [Part.val, List.map_cons, List.map_nil] at ka
  have kb := fun w n0 (hn : n0 = w.heap.size) (h : St W w (fun b => W.heap[b]?) [(w2.heap.size, .cells ls.toArray 26 (0, 0))]) => msum_new ⟨A0, c0, x0⟩ [⟨A1, c1, x1.take m⟩, ⟨subA A1 c1 m, c1 - m, x1.drop m⟩] (n0 := n0) (n := 2) h hn rfl IN0.out (by show x0.length ≤ _; omega) (in_cons (Part.In_take c1 _ IN1.out) (in_cons (Part.In_drop (c1 - m) _ q1 IN1.out) in_nil)) (by simp [cat]; omega) (by omega)
  rw [show cat [⟨A1, c1, x1.take m⟩, ⟨subA A1 c1 m, c1 - m, x1.drop m⟩] = x1 by simp [cat]] at kb
  simp only [Part.val, List.map_cons, List.map_nil, etl, etm] at kb
  rw [hls] at ka kb E1 ix fx ox ex ⊢
  have IX := Lib.hid ix; have FX := Lib.hid fx; have OX := Lib.hid ox; have EX := Lib.hid ex
  have rg : ∀ w, St W w (fun b => W.heap[b]?) [(w2.heap.size, .cells ls.toArray 26 (0, 0))] → w.rangeAt w2.heap.size 0 ls := fun w h => h.rangeAt (g := w2.heap.size) (cs := ls.toArray) (t := 26) (fr := (0, 0)) (by simp) (by simp)
  have hiL : (Try.prog.info? 26).map (·.size) = some ls.length := by rw [hll]; kernel_rfl
  have huL := Try.underlying26
  have sl1 := fun w => run_slice_from Try.underlying22 Try.sizeOf5 A1 x1.length c1 m hmn q1 w
  have sl2 := fun w => run_slice_to Try.underlying22 Try.sizeOf5 A1 x1.length c1 m (by omega) w
  have KA := Lib.hid ka; have KB := Lib.hid kb; have RG := Lib.hid rg; have HIL := Lib.hid hiL; have HUL := Lib.hid huL
  clear h2 ix fx ox ex hb zz ka kb rg hiL huL hls hll etl etm
  go_wp2_with (with_reducible refine wpList_store_st rfl 26 (.tmp 8) (.tmp 26) rfl (g := w2.heap.size) (off := 0) ls.toArray rfl rfl H2a.out FX.out IX.out OX.out ?_; intro w3 h3; refine Hid.out ?_)
  refine Lib.hid ?_
  rw [EX.out] at h3
  clear H2a FX IX OX EX
  generalize w2.heap.size = g8 at *
  have HDW := Lib.hid h3.drew1
  have KA1 := Lib.hid (KA.out w3.drew w3.heap.size rfl HDW.out)
  have KA2 : Hid (Calls Try.prog 23 #[.slice A0 x0.length c0, .slice (some ⟨w3.heap.size, 0, none⟩) 1 1] (w3.alloc (.cells #[.slice A1 x1.length c1] 22)).drew fun e w' => e = .returned (.agg ls.toArray) ∧ St W w' (fun b => W.heap[b]?) [(g8, .cells ls.toArray 26 (0, 0))]) := Lib.hid (KA.out w3.drew w3.heap.size rfl HDW.out)
  have KB1 := Lib.hid (fun w h => KB.out w w.heap.size rfl h)
  clear h3
  go_wp2_with fail
  refine wp_region_held_drew (S := fun w' => St W w' (fun b => W.heap[b]?) [(g8, .cells ls.toArray 26 (0, 0))] ∧ w'.rangeAt g8 0 ls) (by kernel_rfl) ⟨HDW.out, RG.out _ HDW.out⟩ (fun hHeld => ?_)
  refine wpAnyH_take (i := 0) (oi := ?_) (v := ?_) ?_ ?_ ?_ ?_ ?_ ?_ ?_ ?_
  rotate_left 2
  · (simp only [List.getElem?_toArray, List.getElem?_cons_succ, List.getElem?_cons_zero]; exact rfl)
  · kernel_rfl
  · kernel_rfl
  · kernel_rfl
  · exact fun _ _ _ h => h
  · (refine Or.inl ⟨by rfl, ?_⟩; intro w hSw; (try dsimp only at hSw); go_simp; try with_reducible rfl)
  · assumption
  try simp only [Act.put, List.setIfInBounds_toArray, List.set_cons_zero, List.set_cons_succ]
  refine wpAnyH_take (i := 1) (oi := ?_) (v := ?_) ?_ ?_ ?_ ?_ ?_ ?_ ?_ ?_
  rotate_left 2
  · (simp only [List.getElem?_toArray, List.getElem?_cons_succ, List.getElem?_cons_zero]; exact rfl)
  · kernel_rfl
  · kernel_rfl
  · kernel_rfl
  · exact fun _ _ _ h => h
  · (refine Or.inl ⟨by rfl, ?_⟩; intro w hSw; (try dsimp only at hSw); go_simp; try with_reducible rfl)
  · assumption
  try simp only [Act.put, List.setIfInBounds_toArray, List.set_cons_zero, List.set_cons_succ]
  refine wpAnyH_take (i := 4) (oi := ?_) (v := ?_) ?_ ?_ ?_ ?_ ?_ ?_ ?_ ?_
  rotate_left 2
  · (simp only [List.getElem?_toArray, List.getElem?_cons_succ, List.getElem?_cons_zero]; exact rfl)
  · kernel_rfl
  · kernel_rfl
  · kernel_rfl
  · exact fun _ _ _ h => h
  · ((refine yieldsIf_load_mid ?_ 26 (.tmp 8) ?_ g8 0 ?_ ls _ ?_ HUL.out ?_ HIL.out) <;> first | rfl | exact fun w h => h.2)
  · assumption
  try simp only [Act.put, List.setIfInBounds_toArray, List.set_cons_zero, List.set_cons_succ]
  refine wpAnyH_ready (rs := [2]) (by kernel_rfl) (by simp) ?_
  refine AllReadyH.cons (o := ?_) ?_ (fun K hK => ?_) ?_
  rotate_left 1
  · (simp only [List.getElem?_toArray, List.getElem?_cons_succ, List.getElem?_cons_zero]; exact rfl)
  · go_simp
    refine hK.out _ _ ?_ (fun hHeld => ?_)
    · (try dsimp only) <;> (first | exact ⟨hy, RG.out _ hy⟩ | exact ⟨hx, RG.out _ hx⟩ | exact ⟨hx.alloc_ _, RG.out _ (hx.alloc_ _)⟩ | exact ⟨HDW.out.alloc_ _, RG.out _ (HDW.out.alloc_ _)⟩)
    clear hK K
    try simp only [Act.put, List.setIfInBounds_toArray, List.set_cons_zero, List.set_cons_succ]
    refine wpAnyH_ready (rs := [3]) (by kernel_rfl) (by simp) ?_
    refine AllReadyH.cons (o := ?_) ?_ (fun K hK => ?_) ?_
    rotate_left 1
    · (simp only [List.getElem?_toArray, List.getElem?_cons_succ, List.getElem?_cons_zero]; exact rfl)
    · go_simp
      (first | (go_at_call 23; (with_reducible refine (KA1.out).mono ?_); rintro e wx ⟨rfl, hx⟩; dsimp only) | (go_at_call 23; (with_reducible refine (KA2.out).mono ?_); rintro e wx ⟨rfl, hx⟩; dsimp only) | (go_at_call 23; (with_reducible refine (KB1.out _ hx).mono ?_); rintro e wy ⟨rfl, hy⟩; dsimp only))
      refine hK.out _ _ ?_ (fun hHeld => ?_)
      · (try dsimp only) <;> (first | exact ⟨hy, RG.out _ hy⟩ | exact ⟨hx, RG.out _ hx⟩ | exact ⟨hx.alloc_ _, RG.out _ (hx.alloc_ _)⟩ | exact ⟨HDW.out.alloc_ _, RG.out _ (HDW.out.alloc_ _)⟩)
      clear hK K
      try simp only [Act.put, List.setIfInBounds_toArray, List.set_cons_zero, List.set_cons_succ]
      refine wpAnyH_take (i := 5) (oi := ?_) (v := ?_) ?_ ?_ ?_ ?_ ?_ ?_ ?_ ?_
      rotate_left 2
      · (simp only [List.getElem?_toArray, List.getElem?_cons_succ, List.getElem?_cons_zero]; exact rfl)
      · kernel_rfl
      · kernel_rfl
      · kernel_rfl
      · exact fun _ _ _ h => h
      · (refine Or.inl ⟨by rfl, ?_⟩; intro w hSw; (try dsimp only at hSw); go_simp; try with_reducible rfl)
      · assumption
      try simp only [Act.put, List.setIfInBounds_toArray, List.set_cons_zero, List.set_cons_succ]
      refine wpAnyH_take (i := 6) (oi := ?_) (v := ?_) ?_ ?_ ?_ ?_ ?_ ?_ ?_ ?_
      rotate_left 2
      · (simp only [List.getElem?_toArray, List.getElem?_cons_succ, List.getElem?_cons_zero]; exact rfl)
      · kernel_rfl
      · kernel_rfl
      · kernel_rfl
      · exact fun _ _ _ h => h
      · (refine Or.inl ⟨by rfl, ?_⟩; intro w hSw; (try dsimp only at hSw); go_simp; try with_reducible rfl)
      · assumption
      try simp only [Act.put, List.setIfInBounds_toArray, List.set_cons_zero, List.set_cons_succ]
      refine wpAnyH_take (i := 7) (oi := ?_) (v := ?_) ?_ ?_ ?_ ?_ ?_ ?_ ?_ ?_
      rotate_left 2
      · (simp only [List.getElem?_toArray, List.getElem?_cons_succ, List.getElem?_cons_zero]; exact rfl)
      · kernel_rfl
      · kernel_rfl
      · kernel_rfl
      · exact fun _ _ _ h => h
      · (refine Or.inl ⟨by rfl, ?_⟩; intro w hSw; (try dsimp only at hSw); go_simp; try with_reducible rfl)
      · assumption
      try simp only [Act.put, List.setIfInBounds_toArray, List.set_cons_zero, List.set_cons_succ]
      refine wpAnyH_take (i := 8) (oi := ?_) (v := ?_) ?_ ?_ ?_ ?_ ?_ ?_ ?_ ?_
      rotate_left 2
      · (simp only [List.getElem?_toArray, List.getElem?_cons_succ, List.getElem?_cons_zero]; exact rfl)
      · kernel_rfl
      · kernel_rfl
      · kernel_rfl
      · exact fun _ _ _ h => h
      · (refine Or.inl ⟨by rfl, ?_⟩; intro w hSw; (try dsimp only at hSw); go_simp; try with_reducible rfl)
      · assumption
      try simp only [Act.put, List.setIfInBounds_toArray, List.set_cons_zero, List.set_cons_succ]
      refine wpAnyH_take (i := 9) (oi := ?_) (v := ?_) ?_ ?_ ?_ ?_ ?_ ?_ ?_ ?_
      rotate_left 2
      · (simp only [List.getElem?_toArray, List.getElem?_cons_succ, List.getElem?_cons_zero]; exact rfl)
      · kernel_rfl
      · kernel_rfl
      · kernel_rfl
      · exact fun _ _ _ h => h
      · (refine Or.inl ⟨by rfl, ?_⟩; intro w hSw; (try dsimp only at hSw); go_simp; try with_reducible rfl)
      · assumption
      try simp only [Act.put, List.setIfInBounds_toArray, List.set_cons_zero, List.set_cons_succ]
      refine wpAnyH_take (i := 10) (oi := ?_) (v := ?_) ?_ ?_ ?_ ?_ ?_ ?_ ?_ ?_
      rotate_left 2
      · (simp only [List.getElem?_toArray, List.getElem?_cons_succ, List.getElem?_cons_zero]; exact rfl)
      · kernel_rfl
      · kernel_rfl
      · kernel_rfl
      · exact fun _ _ _ h => h
      · (refine Or.inl ⟨by rfl, ?_⟩; intro w hSw; (try dsimp only at hSw); go_simp; try with_reducible rfl)
      · assumption
      try simp only [Act.put, List.setIfInBounds_toArray, List.set_cons_zero, List.set_cons_succ]
      refine wpAnyH_take (i := 11) (oi := ?_) (v := ?_) ?_ ?_ ?_ ?_ ?_ ?_ ?_ ?_
      rotate_left 2
      · (simp only [List.getElem?_toArray, List.getElem?_cons_succ, List.getElem?_cons_zero]; exact rfl)
      · kernel_rfl
      · kernel_rfl
      · kernel_rfl
      · exact fun _ _ _ h => h
      · (refine Or.inl ⟨by rfl, ?_⟩; intro w hSw; (try dsimp only at hSw); go_simp; try with_reducible rfl)
      · assumption
      try simp only [Act.put, List.setIfInBounds_toArray, List.set_cons_zero, List.set_cons_succ]
      refine wpAnyH_take (i := 12) (oi := ?_) (v := ?_) ?_ ?_ ?_ ?_ ?_ ?_ ?_ ?_
      rotate_left 2
      · (simp only [List.getElem?_toArray, List.getElem?_cons_succ, List.getElem?_cons_zero]; exact rfl)
      · kernel_rfl
      · kernel_rfl
      · kernel_rfl
      · exact fun _ _ _ h => h
      · (refine Or.inl ⟨by rfl, ?_⟩; intro w hSw; (try dsimp only at hSw); go_simp; try with_reducible rfl)
      · assumption
      try simp only [Act.put, List.setIfInBounds_toArray, List.set_cons_zero, List.set_cons_succ]
      refine wpAnyH_take (i := 13) (oi := ?_) (v := ?_) ?_ ?_ ?_ ?_ ?_ ?_ ?_ ?_
      rotate_left 2
      · (simp only [List.getElem?_toArray, List.getElem?_cons_succ, List.getElem?_cons_zero]; exact rfl)
      · kernel_rfl
      · kernel_rfl
      · kernel_rfl
      · exact fun _ _ _ h => h
      · (refine Or.inl ⟨by rfl, ?_⟩; intro w hSw; (try dsimp only at hSw); go_simp; try with_reducible rfl)
      · assumption
      try simp only [Act.put, List.setIfInBounds_toArray, List.set_cons_zero, List.set_cons_succ]
      refine wpAnyH_take (i := 16) (oi := ?_) (v := ?_) ?_ ?_ ?_ ?_ ?_ ?_ ?_ ?_
      rotate_left 2
      · (simp only [List.getElem?_toArray, List.getElem?_cons_succ, List.getElem?_cons_zero]; exact rfl)
      · kernel_rfl
      · kernel_rfl
      · kernel_rfl
      · exact fun _ _ _ h => h
      · ((refine yieldsIf_load_mid ?_ 26 (.tmp 8) ?_ g8 0 ?_ ls _ ?_ HUL.out ?_ HIL.out) <;> first | rfl | exact fun w h => h.2)
      · assumption
      try simp only [Act.put, List.setIfInBounds_toArray, List.set_cons_zero, List.set_cons_succ]
      refine wpAnyH_ready (rs := [14]) (by kernel_rfl) (by simp) ?_
      refine AllReadyH.cons (o := ?_) ?_ (fun K hK => ?_) ?_
      rotate_left 1
      · (simp only [List.getElem?_toArray, List.getElem?_cons_succ, List.getElem?_cons_zero]; exact rfl)
      · go_simp
        refine hK.out _ _ ?_ (fun hHeld => ?_)
        · (try dsimp only) <;> (first | exact ⟨hy, RG.out _ hy⟩ | exact ⟨hx, RG.out _ hx⟩ | exact ⟨hx.alloc_ _, RG.out _ (hx.alloc_ _)⟩ | exact ⟨HDW.out.alloc_ _, RG.out _ (HDW.out.alloc_ _)⟩)
        clear hK K
        try simp only [Act.put, List.setIfInBounds_toArray, List.set_cons_zero, List.set_cons_succ]
        refine wpAnyH_ready (rs := [15]) (by kernel_rfl) (by simp) ?_
        refine AllReadyH.cons (o := ?_) ?_ (fun K hK => ?_) ?_
        rotate_left 1
        · (simp only [List.getElem?_toArray, List.getElem?_cons_succ, List.getElem?_cons_zero]; exact rfl)
        · go_simp
          (first | (go_at_call 23; (with_reducible refine (KA1.out).mono ?_); rintro e wx ⟨rfl, hx⟩; dsimp only) | (go_at_call 23; (with_reducible refine (KA2.out).mono ?_); rintro e wx ⟨rfl, hx⟩; dsimp only) | (go_at_call 23; (with_reducible refine (KB1.out _ hx).mono ?_); rintro e wy ⟨rfl, hy⟩; dsimp only))
          refine hK.out _ _ ?_ (fun hHeld => ?_)
          · (try dsimp only) <;> (first | exact ⟨hy, RG.out _ hy⟩ | exact ⟨hx, RG.out _ hx⟩ | exact ⟨hx.alloc_ _, RG.out _ (hx.alloc_ _)⟩ | exact ⟨HDW.out.alloc_ _, RG.out _ (HDW.out.alloc_ _)⟩)
          clear hK K
          try simp only [Act.put, List.setIfInBounds_toArray, List.set_cons_zero, List.set_cons_succ]
          refine wpAnyH_take (i := 17) (oi := ?_) (v := ?_) ?_ ?_ ?_ ?_ ?_ ?_ ?_ ?_
          rotate_left 2
          · (simp only [List.getElem?_toArray, List.getElem?_cons_succ, List.getElem?_cons_zero]; exact rfl)
          · kernel_rfl
          · kernel_rfl
          · kernel_rfl
          · exact fun _ _ _ h => h
          · (refine Or.inl ⟨by rfl, ?_⟩; intro w hSw; (try dsimp only at hSw); go_simp; try with_reducible rfl)
          · assumption
          try simp only [Act.put, List.setIfInBounds_toArray, List.set_cons_zero, List.set_cons_succ]
          refine wpAnyH_take (i := 18) (oi := ?_) (v := ?_) ?_ ?_ ?_ ?_ ?_ ?_ ?_ ?_
          rotate_left 2
          · (simp only [List.getElem?_toArray, List.getElem?_cons_succ, List.getElem?_cons_zero]; exact rfl)
          · kernel_rfl
          · kernel_rfl
          · kernel_rfl
          · exact fun _ _ _ h => h
          · (refine Or.inl ⟨by rfl, ?_⟩; intro w hSw; (try dsimp only at hSw); go_simp; try with_reducible rfl)
          · assumption
          try simp only [Act.put, List.setIfInBounds_toArray, List.set_cons_zero, List.set_cons_succ]
          refine wpAnyH_take (i := 19) (oi := ?_) (v := ?_) ?_ ?_ ?_ ?_ ?_ ?_ ?_ ?_
          rotate_left 2
          · (simp only [List.getElem?_toArray, List.getElem?_cons_succ, List.getElem?_cons_zero]; exact rfl)
          · kernel_rfl
          · kernel_rfl
          · kernel_rfl
          · exact fun _ _ _ h => h
          · (refine Or.inl ⟨by rfl, ?_⟩; intro w hSw; (try dsimp only at hSw); go_simp; try with_reducible rfl)
          · assumption
          try simp only [Act.put, List.setIfInBounds_toArray, List.set_cons_zero, List.set_cons_succ]
          refine wpAnyH_done (by kernel_rfl) ?_ _
          have hfin := hy.below (Le.refl _)
          go_wp2_with fail
          go_ret
          exact ⟨rfl, hfin⟩
        exact AllReadyH.nil
      exact AllReadyH.nil
    exact AllReadyH.nil
  exact AllReadyH.nil
end Go.Proofs.Ytjkepnddmpgljaa
