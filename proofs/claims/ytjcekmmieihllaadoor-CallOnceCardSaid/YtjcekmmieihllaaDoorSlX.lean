/- slot: the document's Text: walk. slot: arguments of the laws; what is laid. -/
import Derived.Test.YtjcekmmieihllaaDoorSlotT
import Derived.Test.YtjcekmmieihllaaDoorTxC
import Derived.IntWalk
import Derived.Test.YtjcekmmieihllaaDoorHaB
namespace Go.Proofs.YtjcekmmieihllaaDoor
section
set_option linter.unusedVariables false
set_option linter.unusedSimpArgs false
open Go.RowKit Go.Lib

theorem right_bounds (s : Slt) (h : rightS s = true) : 0 ≤ s.ver ∧ s.ver ≤ 281474976710656 ∧ 0 ≤ s.sz ∧ s.sz ≤ 65536 ∧ 0 ≤ s.tr ∧ s.tr ≤ 7 := by
  rcases right_st s h with k | k | k | k | k
  · unfold rightS noneS at h
    rw [k] at h
    simp at h
    omega
  · unfold rightS noneS at h
    rw [k] at h
    simp at h
    omega
  · unfold rightS noneS at h
    rw [k] at h
    simp at h
    omega
  · have := right_img s h (.inl k)
    omega
  · have := right_img s h (.inr k)
    omega
section
variable {W w : World} {I : Nat → Option Obj} {F : List (Nat × Obj)}
set_option maxRecDepth 100000 in
set_option maxHeartbeats 8000000 in
theorem ref_text (s : Slt) (ok : s.Ok) (h : St W w I F) :
    Calls Tryd.prog 47 #[s.val] w fun e w' => e = .returned (.string ⟨(textS s).toArray⟩) ∧ St W w' I F := by
  have h0 := h.alloc (.cells s.cells 39)
  obtain ⟨b, hb⟩ : ∃ b, w.heap.size = b := ⟨_, rfl⟩
  rw [hb] at h0
  have kR := fun (v : World) (F : List (Nat × Obj)) (hv : St W v I F) => ref_right s ok hv
  have HMI := Lib.hid (slot_info ok.dig)
  have H0 := Lib.hid h0
  clear h0 h
  unfold Slt.val at kR ⊢
  cases hR : rightS s with
  | false =>
    have hv : textS s = [] := by rw [textS, hR]; rfl
    rw [hR] at kR
    rw [hv]
    have KR := Lib.hid kR
    clear kR hR hv ok
    go_enter Tryd.func47, Tryd.ntmps47
    go_wp2_with (with_reducible refine wpList_load_st rfl 39 (.tmp 1) rfl (g := b) (off := 0) rfl H0.out (cs := s.cells) (t := 39) (fr := (0, 0)) (by simp) s.cells (fun j hj => by rw [Nat.zero_add]) _ Tryd.underlying39 rfl HMI.out ?_)
    refine (KR.out _ _ H0.out).mono ?_
    rintro e w2 ⟨rfl, h2⟩
    have H2 := Lib.hid h2
    clear h2 H0 KR hb
    go_wp2_with fail
    go_ret
    exact ⟨rfl, St.weaken (A := [_]) H2.out⟩
  | true =>
    rw [hR] at kR
    obtain ⟨r1, r2, r3, r4, r5, r6⟩ := right_bounds s hR
    have l2 := decD_len 20 s.ver.toNat (by omega) (by omega)
    have l3 := decD_len 20 s.sz.toNat (by omega) (by omega)
    have l4 := decD_len 20 s.tr.toNat (by omega) (by omega)
    have l6 : (textOf s.dig).length ≤ 64 := by have := textOf_len s.dig; rw [ok.dig] at this; omega
    have kT := fun (v : World) (F : List (Nat × Obj)) (hv : St W v I F) => rtext_any s.dig ok.dig hv
    rw [show bcells s.dig = (s.dig.map bval).toArray from rfl] at kT
    have sx : ∀ v, St W v I ((b, .cells s.cells 39 (0, 0)) :: F) → v.cell? ⟨b, 2, none⟩ = some (.int .u64 s.ver) ∧ v.cell? ⟨b, 3, none⟩ = some (.int .i64 s.sz) ∧ v.rangeAt b 4 (s.dig.map bval) := fun v hv => ⟨hv.slt.2.2.1, hv.slt.2.2.2, hv.hashAt⟩
    have hul : Tryd.prog.underlying 37 = some _ := Tryd.underlying37
    have hix : (Tryd.prog.info? 37).map (·.size) = some (s.dig.map bval).length := by rw [List.length_map, ok.dig]; kernel_rfl
    have kU := fun (v : World) (F : List (Nat × Obj)) (hv : St W v I F) => rdec_any s.ver.toNat (by omega) hv
    have kI := fun (v : World) (F : List (Nat × Obj)) (hv : St W v I F) => rdec_any s.sz.toNat (by omega) hv
    have kJ := fun (v : World) (F : List (Nat × Obj)) (hv : St W v I F) => rdec_any s.tr.toNat (by omega) hv
    rw [show ((s.ver.toNat : Nat) : Int) = s.ver by omega] at kU
    rw [show ((s.sz.toNat : Nat) : Int) = s.sz by omega] at kI
    rw [show ((s.tr.toNat : Nat) : Int) = s.tr by omega] at kJ
    have hst := right_st s hR
    have htx := textS.eq_1 s
    rw [hR, if_pos rfl] at htx
    unfold imgL at htx
    generalize Lib.decDigits s.ver.toNat = x2 at *
    generalize Lib.decDigits s.sz.toNat = x3 at *
    generalize Lib.decDigits s.tr.toNat = x4 at *
    generalize textOf s.dig = x5 at *
    have KR := Lib.hid kR
    have KU := Lib.hid kU; have KI := Lib.hid kI; have KJ := Lib.hid kJ; have KT := Lib.hid kT; have SX := Lib.hid sx; have HUL := Lib.hid hul; have HIX := Lib.hid hix; have HTX := Lib.hid htx
    clear kR hR ok kU kI kJ kT sx hul hix htx
    have z1 : ¬ (9223372036854775807 < 1 + x2.length) := by omega
    have z2 : ¬ (9223372036854775807 < 1 + x2.length + 1) := by omega
    have z3 : ¬ (9223372036854775807 < 1 + x2.length + 1 + x3.length) := by omega
    have z4 : ¬ (9223372036854775807 < 1 + x2.length + 1 + x3.length + 1) := by omega
    have z5 : ¬ (9223372036854775807 < 1 + x2.length + 1 + x3.length + 1 + x5.length) := by omega
    have z6 : ¬ (9223372036854775807 < 5 + (1 + x2.length + 1 + x3.length + 1 + x5.length)) := by omega
    have z9 : ¬ (9223372036854775807 < 4 + (1 + x2.length + 1 + x3.length + 1 + x5.length)) := by omega
    have z7 : ¬ (9223372036854775807 < 5 + (1 + x2.length + 1 + x3.length + 1 + x5.length) + 1) := by omega
    have z8 : ¬ (9223372036854775807 < 5 + (1 + x2.length + 1 + x3.length + 1 + x5.length) + 1 + x4.length) := by omega
    have hw1 : IntKind.u64.wrap s.sz = s.sz := IntWalk.u64_in _ (by omega)
    have hw2 : IntKind.u64.wrap s.tr = s.tr := IntWalk.u64_in _ (by omega)
    go_enter Tryd.func47, Tryd.ntmps47
    go_wp2_with (with_reducible refine wpList_load_st rfl 39 (.tmp 1) rfl (g := b) (off := 0) rfl H0.out (cs := s.cells) (t := 39) (fr := (0, 0)) (by simp) s.cells (fun j hj => by rw [Nat.zero_add]) _ Tryd.underlying39 rfl HMI.out ?_)
    refine (KR.out _ _ H0.out).mono ?_
    rintro e w2 ⟨rfl, h2⟩
    have hx := h2.drew1
    clear h2 H0 KR hb
    go_wp2_with fail
    refine wp_region_held_drew (S := fun v => v.cell? ⟨b, 2, none⟩ = some (.int .u64 s.ver) ∧ v.cell? ⟨b, 3, none⟩ = some (.int .i64 s.sz) ∧ v.rangeAt b 4 (s.dig.map bval)) (by kernel_rfl) (SX.out _ hx) (fun hHeld => ?_)
    refine wpAnyH_take (i := 0) (oi := ?_) (v := ?_) ?_ ?_ ?_ ?_ ?_ ?_ ?_ ?_
    rotate_left 2
    · (simp only [List.getElem?_toArray, List.getElem?_cons_succ, List.getElem?_cons_zero]; exact rfl)
    · kernel_rfl
    · kernel_rfl
    · kernel_rfl
    · exact fun _ _ _ h => h
    · first | (refine Or.inl ⟨by rfl, ?_⟩; intro w hSw; (try dsimp only at hSw); go_simp; try with_reducible rfl) | (refine Or.inr ⟨by rfl, ?_⟩; rfl)
    · assumption
    try simp only [Act.put, List.setIfInBounds_toArray, List.set_cons_zero, List.set_cons_succ]
    refine wpAnyH_take (i := 1) (oi := ?_) (v := ?_) ?_ ?_ ?_ ?_ ?_ ?_ ?_ ?_
    rotate_left 2
    · (simp only [List.getElem?_toArray, List.getElem?_cons_succ, List.getElem?_cons_zero]; exact rfl)
    · kernel_rfl
    · kernel_rfl
    · kernel_rfl
    · exact fun _ _ _ h => h
    · first | (first | ((refine yieldsIf_load_mid ?_ 37 (.tmp 18) ?_ b 4 ?_ (s.dig.map bval) _ ?_ HUL.out ?_ HIX.out) <;> first | rfl | exact fun w h => h.2.2) | (refine Or.inl ⟨by rfl, ?_⟩; intro w hSw; obtain ⟨hS1, hS2, hS3⟩ := hSw; go_simp; try with_reducible rfl)) | (refine Or.inr ⟨by rfl, ?_⟩; rfl)
    · assumption
    try simp only [Act.put, List.setIfInBounds_toArray, List.set_cons_zero, List.set_cons_succ]
    refine wpAnyH_take (i := 5) (oi := ?_) (v := ?_) ?_ ?_ ?_ ?_ ?_ ?_ ?_ ?_
    rotate_left 2
    · (simp only [List.getElem?_toArray, List.getElem?_cons_succ, List.getElem?_cons_zero]; exact rfl)
    · kernel_rfl
    · kernel_rfl
    · kernel_rfl
    · exact fun _ _ _ h => h
    · first | (refine Or.inl ⟨by rfl, ?_⟩; intro w hSw; (try dsimp only at hSw); go_simp; try with_reducible rfl) | (refine Or.inr ⟨by rfl, ?_⟩; rfl)
    · assumption
    try simp only [Act.put, List.setIfInBounds_toArray, List.set_cons_zero, List.set_cons_succ]
    refine wpAnyH_take (i := 6) (oi := ?_) (v := ?_) ?_ ?_ ?_ ?_ ?_ ?_ ?_ ?_
    rotate_left 2
    · (simp only [List.getElem?_toArray, List.getElem?_cons_succ, List.getElem?_cons_zero]; exact rfl)
    · kernel_rfl
    · kernel_rfl
    · kernel_rfl
    · exact fun _ _ _ h => h
    · first | (first | ((refine yieldsIf_load_mid ?_ 37 (.tmp 18) ?_ b 4 ?_ (s.dig.map bval) _ ?_ HUL.out ?_ HIX.out) <;> first | rfl | exact fun w h => h.2.2) | (refine Or.inl ⟨by rfl, ?_⟩; intro w hSw; obtain ⟨hS1, hS2, hS3⟩ := hSw; go_simp; try with_reducible rfl)) | (refine Or.inr ⟨by rfl, ?_⟩; rfl)
    · assumption
    try simp only [Act.put, List.setIfInBounds_toArray, List.set_cons_zero, List.set_cons_succ]
    refine wpAnyH_take (i := 7) (oi := ?_) (v := ?_) ?_ ?_ ?_ ?_ ?_ ?_ ?_ ?_
    rotate_left 2
    · (simp only [List.getElem?_toArray, List.getElem?_cons_succ, List.getElem?_cons_zero]; exact rfl)
    · kernel_rfl
    · kernel_rfl
    · kernel_rfl
    · exact fun _ _ _ h => h
    · first | (refine Or.inl ⟨by rfl, ?_⟩; intro w hSw; (try dsimp only at hSw); go_simp; try with_reducible rfl) | (refine Or.inr ⟨by rfl, ?_⟩; rfl)
    · assumption
    try simp only [Act.put, List.setIfInBounds_toArray, List.set_cons_zero, List.set_cons_succ]
    refine wpAnyH_take (i := 11) (oi := ?_) (v := ?_) ?_ ?_ ?_ ?_ ?_ ?_ ?_ ?_
    rotate_left 2
    · (simp only [List.getElem?_toArray, List.getElem?_cons_succ, List.getElem?_cons_zero]; exact rfl)
    · kernel_rfl
    · kernel_rfl
    · kernel_rfl
    · exact fun _ _ _ h => h
    · first | (refine Or.inl ⟨by rfl, ?_⟩; intro w hSw; (try dsimp only at hSw); go_simp; try with_reducible rfl) | (refine Or.inr ⟨by rfl, ?_⟩; rfl)
    · assumption
    try simp only [Act.put, List.setIfInBounds_toArray, List.set_cons_zero, List.set_cons_succ]
    refine wpAnyH_take (i := 12) (oi := ?_) (v := ?_) ?_ ?_ ?_ ?_ ?_ ?_ ?_ ?_
    rotate_left 2
    · (simp only [List.getElem?_toArray, List.getElem?_cons_succ, List.getElem?_cons_zero]; exact rfl)
    · kernel_rfl
    · kernel_rfl
    · kernel_rfl
    · exact fun _ _ _ h => h
    · first | (first | ((refine yieldsIf_load_mid ?_ 37 (.tmp 18) ?_ b 4 ?_ (s.dig.map bval) _ ?_ HUL.out ?_ HIX.out) <;> first | rfl | exact fun w h => h.2.2) | (refine Or.inl ⟨by rfl, ?_⟩; intro w hSw; obtain ⟨hS1, hS2, hS3⟩ := hSw; go_simp; try with_reducible rfl)) | (refine Or.inr ⟨by rfl, ?_⟩; rfl)
    · assumption
    try simp only [Act.put, List.setIfInBounds_toArray, List.set_cons_zero, List.set_cons_succ]
    refine wpAnyH_ready (rs := [2]) (by kernel_rfl) (by simp) ?_
    refine AllReadyH.cons (o := ?_) ?_ (fun K hK => ?_) ?_
    rotate_left 1
    · (simp only [List.getElem?_toArray, List.getElem?_cons_succ, List.getElem?_cons_zero]; exact rfl)
    · go_simp
      (first | (go_at_call 48; (with_reducible refine (KU.out _ _ hx).mono ?_); rintro e wx ⟨rfl, hx⟩; dsimp only) | (go_at_call 48; (with_reducible refine (KI.out _ _ hx).mono ?_); rintro e wx ⟨rfl, hx⟩; dsimp only) | (go_at_call 69; (with_reducible refine (KT.out _ _ hx).mono ?_); rintro e wx ⟨rfl, hx⟩; dsimp only))
      refine hK.out _ _ ?_ (fun hHeld => ?_)
      · (try dsimp only) <;> (first | exact SX.out _ hx | exact SX.out _ (hx.alloc_ _))
      clear hK K
      try simp only [Act.put, List.setIfInBounds_toArray, List.set_cons_zero, List.set_cons_succ]
      refine wpAnyH_take (i := 3) (oi := ?_) (v := ?_) ?_ ?_ ?_ ?_ ?_ ?_ ?_ ?_
      rotate_left 2
      · (simp only [List.getElem?_toArray, List.getElem?_cons_succ, List.getElem?_cons_zero]; exact rfl)
      · kernel_rfl
      · kernel_rfl
      · kernel_rfl
      · exact fun _ _ _ h => h
      · first | (refine Or.inl ⟨by rfl, ?_⟩; intro w hSw; (try dsimp only at hSw); go_simp; try with_reducible rfl) | (refine Or.inr ⟨by rfl, ?_⟩; rfl)
      · assumption
      try simp only [Act.put, List.setIfInBounds_toArray, List.set_cons_zero, List.set_cons_succ]
      refine wpAnyH_take (i := 4) (oi := ?_) (v := ?_) ?_ ?_ ?_ ?_ ?_ ?_ ?_ ?_
      rotate_left 2
      · (simp only [List.getElem?_toArray, List.getElem?_cons_succ, List.getElem?_cons_zero]; exact rfl)
      · kernel_rfl
      · kernel_rfl
      · kernel_rfl
      · exact fun _ _ _ h => h
      · first | (refine Or.inl ⟨by rfl, ?_⟩; intro w hSw; (try dsimp only at hSw); go_simp; try with_reducible rfl) | (refine Or.inr ⟨by rfl, ?_⟩; rfl)
      · assumption
      try simp only [Act.put, List.setIfInBounds_toArray, List.set_cons_zero, List.set_cons_succ]
      refine wpAnyH_ready (rs := [8]) (by kernel_rfl) (by simp) ?_
      refine AllReadyH.cons (o := ?_) ?_ (fun K hK => ?_) ?_
      rotate_left 1
      · (simp only [List.getElem?_toArray, List.getElem?_cons_succ, List.getElem?_cons_zero]; exact rfl)
      · go_simp
        (first | (go_at_call 48; (with_reducible refine (KU.out _ _ hx).mono ?_); rintro e wx ⟨rfl, hx⟩; dsimp only) | (go_at_call 48; (with_reducible refine (KI.out _ _ hx).mono ?_); rintro e wx ⟨rfl, hx⟩; dsimp only) | (go_at_call 69; (with_reducible refine (KT.out _ _ hx).mono ?_); rintro e wx ⟨rfl, hx⟩; dsimp only))
        refine hK.out _ _ ?_ (fun hHeld => ?_)
        · (try dsimp only) <;> (first | exact SX.out _ hx | exact SX.out _ (hx.alloc_ _))
        clear hK K
        try simp only [Act.put, List.setIfInBounds_toArray, List.set_cons_zero, List.set_cons_succ]
        refine wpAnyH_take (i := 9) (oi := ?_) (v := ?_) ?_ ?_ ?_ ?_ ?_ ?_ ?_ ?_
        rotate_left 2
        · (simp only [List.getElem?_toArray, List.getElem?_cons_succ, List.getElem?_cons_zero]; exact rfl)
        · kernel_rfl
        · kernel_rfl
        · kernel_rfl
        · exact fun _ _ _ h => h
        · first | (refine Or.inl ⟨by rfl, ?_⟩; intro w hSw; (try dsimp only at hSw); go_simp; try with_reducible rfl) | (refine Or.inr ⟨by rfl, ?_⟩; rfl)
        · assumption
        try simp only [Act.put, List.setIfInBounds_toArray, List.set_cons_zero, List.set_cons_succ]
        refine wpAnyH_take (i := 10) (oi := ?_) (v := ?_) ?_ ?_ ?_ ?_ ?_ ?_ ?_ ?_
        rotate_left 2
        · (simp only [List.getElem?_toArray, List.getElem?_cons_succ, List.getElem?_cons_zero]; exact rfl)
        · kernel_rfl
        · kernel_rfl
        · kernel_rfl
        · exact fun _ _ _ h => h
        · first | (refine Or.inl ⟨by rfl, ?_⟩; intro w hSw; (try dsimp only at hSw); go_simp; try with_reducible rfl) | (refine Or.inr ⟨by rfl, ?_⟩; rfl)
        · assumption
        try simp only [Act.put, List.setIfInBounds_toArray, List.set_cons_zero, List.set_cons_succ]
        refine wpAnyH_ready (rs := [13]) (by kernel_rfl) (by simp) ?_
        refine AllReadyH.cons (o := ?_) ?_ (fun K hK => ?_) ?_
        rotate_left 1
        · (simp only [List.getElem?_toArray, List.getElem?_cons_succ, List.getElem?_cons_zero]; exact rfl)
        · go_simp
          (first | (go_at_call 48; (with_reducible refine (KU.out _ _ hx).mono ?_); rintro e wx ⟨rfl, hx⟩; dsimp only) | (go_at_call 48; (with_reducible refine (KI.out _ _ hx).mono ?_); rintro e wx ⟨rfl, hx⟩; dsimp only) | (go_at_call 69; (with_reducible refine (KT.out _ _ hx).mono ?_); rintro e wx ⟨rfl, hx⟩; dsimp only))
          refine hK.out _ _ ?_ (fun hHeld => ?_)
          · (try dsimp only) <;> (first | exact SX.out _ hx | exact SX.out _ (hx.alloc_ _))
          clear hK K
          try simp only [Act.put, List.setIfInBounds_toArray, List.set_cons_zero, List.set_cons_succ]
          refine wpAnyH_take (i := 14) (oi := ?_) (v := ?_) ?_ ?_ ?_ ?_ ?_ ?_ ?_ ?_
          rotate_left 2
          · (simp only [List.getElem?_toArray, List.getElem?_cons_succ, List.getElem?_cons_zero]; exact rfl)
          · kernel_rfl
          · kernel_rfl
          · kernel_rfl
          · exact fun _ _ _ h => h
          · first | (refine Or.inl ⟨by rfl, ?_⟩; intro w hSw; (try dsimp only at hSw); go_simp; try with_reducible rfl) | (refine Or.inr ⟨by rfl, ?_⟩; rfl)
          · assumption
          try simp only [Act.put, List.setIfInBounds_toArray, List.set_cons_zero, List.set_cons_succ]
          refine wpAnyH_take (i := 15) (oi := ?_) (v := ?_) ?_ ?_ ?_ ?_ ?_ ?_ ?_ ?_
          rotate_left 2
          · (simp only [List.getElem?_toArray, List.getElem?_cons_succ, List.getElem?_cons_zero]; exact rfl)
          · kernel_rfl
          · kernel_rfl
          · kernel_rfl
          · exact fun _ _ _ h => h
          · first | (refine Or.inl ⟨by rfl, ?_⟩; intro w hSw; (try dsimp only at hSw); go_simp; try with_reducible rfl) | (refine Or.inr ⟨by rfl, ?_⟩; rfl)
          · assumption
          try simp only [Act.put, List.setIfInBounds_toArray, List.set_cons_zero, List.set_cons_succ]
          refine wpAnyH_done (by kernel_rfl) ?_ _
          have c0 := hx.slt.1
          have c1 := hx.slt.2.1
          have HX := Lib.hid hx
          clear hx
          rcases hst with k | k | k | k | k
          · have S := Lib.hid k
            rw [k] at c0
            clear k
            clear c1
            go_wp2_with fail
            go_ret
            refine ⟨?_, St.weaken (A := [_]) HX.out⟩
            rw [HTX.out, if_neg (by rw [S.out]; decide), if_neg (by rw [S.out]; decide), S.out]
            exact congrArg (fun s => Ending.returned (Value.string s)) (by apply ByteArray.ext; apply Array.toList_inj.1; simp [wordL])
          · have S := Lib.hid k
            rw [k] at c0
            clear k
            clear c1
            go_wp2_with fail
            go_ret
            refine ⟨?_, St.weaken (A := [_]) HX.out⟩
            rw [HTX.out, if_neg (by rw [S.out]; decide), if_neg (by rw [S.out]; decide), S.out]
            exact congrArg (fun s => Ending.returned (Value.string s)) (by apply ByteArray.ext; apply Array.toList_inj.1; simp [wordL])
          · have S := Lib.hid k
            rw [k] at c0
            clear k
            clear c1
            go_wp2_with fail
            go_ret
            refine ⟨?_, St.weaken (A := [_]) HX.out⟩
            rw [HTX.out, if_neg (by rw [S.out]; decide), if_neg (by rw [S.out]; decide), S.out]
            exact congrArg (fun s => Ending.returned (Value.string s)) (by apply ByteArray.ext; apply Array.toList_inj.1; simp [wordL])
          · have S := Lib.hid k
            rw [k] at c0
            clear k
            go_wp2_with fail
            refine (KJ.out _ _ HX.out).mono ?_
            rintro e w5 ⟨rfl, h5⟩
            have H5 := Lib.hid h5
            clear h5 HX
            go_wp2_with fail
            go_ret
            refine ⟨?_, St.weaken (A := [_]) H5.out⟩
            rw [HTX.out, if_pos S.out]
            exact congrArg (fun s => Ending.returned (Value.string s)) (by apply ByteArray.ext; apply Array.toList_inj.1; simp [wordL])
          · have S := Lib.hid k
            rw [k] at c0
            clear k
            clear c1
            go_wp2_with fail
            go_ret
            refine ⟨?_, St.weaken (A := [_]) HX.out⟩
            rw [HTX.out, if_neg (by rw [S.out]; decide), if_pos S.out]
            exact congrArg (fun s => Ending.returned (Value.string s)) (by apply ByteArray.ext; apply Array.toList_inj.1; simp [wordL])
        exact AllReadyH.nil
      exact AllReadyH.nil
    exact AllReadyH.nil
end
end

section
set_option linter.unusedVariables false
set_option linter.unusedSimpArgs false
open Go.RowKit Go.Lib Go.Shelf

abbrev SV0 (W : World) : Prop := SV W (fun b => W.heap[b]?)
theorem roCell_heap (W : World) (b i : Nat) : roCell (fun b => W.heap[b]?) ⟨b, i, none⟩ = W.cell? ⟨b, i, none⟩ := rfl
theorem pow_eq : (Rows.laid_internal_strconv_uint64pow10 : DataW Unit) = tabData .u64 Lib.pow10Tab := by kernel_rfl
theorem words_eq : (Rows.laid_bootjack_slot_words : DataW Unit) = .agg (wordsL.map fun z => .lit (.string z)) := by rfl
theorem sv_of_laid {l : List (String × DataW Unit)} {w : World} (h : laidMetH Tryd.prog l w) (hp : (l.all fun x => x.2.handleName?.isNone) = true)
    (h1 : ("internal/strconv.uint64pow10", Rows.laid_internal_strconv_uint64pow10) ∈ l) (h2 : ("strconv.ErrRange", Rows.laid_strconv_ErrRange) ∈ l) (h3 : ("strconv.ErrSyntax", Rows.laid_strconv_ErrSyntax) ∈ l)
    (h4 : ("bootjack/slot.words", Rows.laid_bootjack_slot_words) ∈ l) : SV0 w := by
  rw [MakeChecks.laidMetH_plain _ _ _ hp] at h
  have p10 : Lib.TabIs Tryd.prog w "internal/strconv.uint64pow10" .u64 Lib.pow10Tab := tabIs_of_reads (g := 9) (by kernel_rfl) (by kernel_rfl) Tryd.underlying170 Tryd.underlying35 (by kernel_rfl) (by kernel_rfl) (pow_eq ▸ Lib.laidMet.reads h h1)
  refine ⟨Le.refl _, ⟨p10⟩, ⟨?_, ?_⟩, fun i z hz => ?_⟩
  · exact iface_of_reads (g := 10) (by kernel_rfl) (by kernel_rfl) Tryd.underlying108 (Lib.laidMet.reads h h3)
  · exact iface_of_reads (g := 11) (by kernel_rfl) (by kernel_rfl) Tryd.underlying108 (Lib.laidMet.reads h h2)
  · rw [roCell_heap]
    exact strs_of_reads (g := 6) (by kernel_rfl) (by kernel_rfl) Tryd.underlying122 Tryd.underlying9 (by kernel_rfl) (by kernel_rfl) (words_eq ▸ Lib.laidMet.reads h h4) i z hz
section
variable {H : Type} {enc : TypeId × Value → H} {W : World}
theorem cel_hash {cs : List Value} (h : Cel enc Tryd.prog W 37 cs) : ∃ xs : List UInt8, xs.length = 32 ∧ cs = xs.map bval := by
  obtain ⟨hl, hf⟩ := h.array_ Tryd.underlying37
  have hl : cs.length = 32 := by rw [hl]; kernel_rfl
  have c1 : Tryd.prog.cellsOf 5 = 1 := by kernel_rfl
  rw [c1] at hf
  have hb : ∀ i, i < 32 → ∃ b : UInt8, cs[i]? = some (bval b) := fun i hi => by
    obtain ⟨b, hb⟩ := (hf i hi).byte Tryd.underlying5
    refine ⟨b, ?_⟩
    have := congrArg (·[0]?) hb
    simpa [List.getElem?_take, List.getElem?_drop] using this
  refine ⟨(List.range 32).map fun i => if h : i < 32 then Classical.choose (hb i h) else 0, by simp, ?_⟩
  apply List.ext_getElem?
  intro i
  by_cases hi : i < 32
  · rw [List.getElem?_map, List.getElem?_map, List.getElem?_range hi]
    simp only [Option.map_some, dif_pos hi]
    exact Classical.choose_spec (hb i hi)
  · rw [List.getElem?_eq_none (by omega), List.getElem?_eq_none (by simp; omega)]
theorem Arg.slot {v : Value} (h : Arg enc Tryd.prog W 39 v) : ∃ s : Slt, v = s.val ∧ s.Ok := by
  obtain ⟨cs, rfl, hl, _⟩ := h.struct_ Tryd.underlying39
  have h2 : Cel enc Tryd.prog W 39 cs := by simpa [Value.cells] using h.reads
  obtain ⟨hl, hf⟩ := h2.struct_ Tryd.underlying39
  have hl : cs.length = 36 := by rw [hl]; kernel_rfl
  have f0 : Cel enc Tryd.prog W 3 ((cs.drop 0).take (Tryd.prog.cellsOf 3)) := hf 0 _ rfl
  have f1 : Cel enc Tryd.prog W 3 ((cs.drop 1).take (Tryd.prog.cellsOf 3)) := hf 1 _ rfl
  have f2 : Cel enc Tryd.prog W 35 ((cs.drop 2).take (Tryd.prog.cellsOf 35)) := hf 2 _ rfl
  have f3 : Cel enc Tryd.prog W 3 ((cs.drop 3).take (Tryd.prog.cellsOf 3)) := hf 3 _ rfl
  have f4 : Cel enc Tryd.prog W 37 ((cs.drop 4).take (Tryd.prog.cellsOf 37)) := hf 4 _ rfl
  rw [show Tryd.prog.cellsOf 3 = 1 by kernel_rfl] at f0 f1 f3
  rw [show Tryd.prog.cellsOf 35 = 1 by kernel_rfl] at f2
  rw [show Tryd.prog.cellsOf 37 = 32 by kernel_rfl] at f4
  obtain ⟨n0, e0, w0⟩ := f0.int Tryd.underlying3
  obtain ⟨n1, e1, w1⟩ := f1.int Tryd.underlying3
  obtain ⟨n2, e2, w2⟩ := f2.int Tryd.underlying35
  obtain ⟨n3, e3, w3⟩ := f3.int Tryd.underlying3
  obtain ⟨ds, hd, e4⟩ := cel_hash f4
  obtain ⟨a0, b0⟩ := wf_i64 w0
  obtain ⟨a1, b1⟩ := wf_i64 w1
  obtain ⟨a3, b3⟩ := wf_i64 w3
  have w2' : 0 ≤ n2 ∧ n2 ≤ 18446744073709551615 := by
    simp [Lit.wf, IntKind.min, IntKind.max, IntKind.signed, IntKind.bits] at w2
    exact w2
  refine ⟨⟨n0, n1, n2, n3, ds⟩, ?_, ⟨hd, a0, b0, a1, b1, w2'.1, w2'.2, a3, b3⟩⟩
  have hcs : cs = [.int .i64 n0, .int .i64 n1, .int .u64 n2, .int .i64 n3] ++ ds.map bval := by
    have e5 : cs = (cs.drop 0).take 1 ++ ((cs.drop 1).take 1 ++ ((cs.drop 2).take 1 ++ ((cs.drop 3).take 1 ++ (cs.drop 4).take 32))) := by
      have a : ∀ k, cs.drop k = (cs.drop k).take 1 ++ cs.drop (k + 1) := fun k => by
        have h := (List.take_append_drop 1 (cs.drop k)).symm
        rwa [List.drop_drop] at h
      have b : (cs.drop 4).take 32 = cs.drop 4 := List.take_of_length_le (by rw [List.length_drop]; omega)
      rw [b]
      exact (a 0).trans (congrArg _ ((a 1).trans (congrArg _ ((a 2).trans (congrArg _ (a 3))))))
    rw [e5, e0, e1, e2, e3, e4]
    rfl
  unfold Slt.val Slt.cells
  rw [hcs]
end
end
end Go.Proofs.YtjcekmmieihllaaDoor
