/- slot: the document's Text: walk. slot: a slot's text is read as it was: in plain Lean. slot: the chapter's example: walk. slot: arguments of the laws; what is laid. -/
import Derived.Test.YtpjfmgifddoppaaDoorSlotT
import Derived.Test.YtpjfmgifddoppaaDoorTxC
import Derived.IntWalk
import Derived.Test.YtpjfmgifddoppaaDoorSlotV
import Derived.Test.YtpjfmgifddoppaaDoorHaB
namespace Go.Proofs.YtpjfmgifddoppaaDoor
section
set_option linter.unusedVariables false
set_option linter.unusedSimpArgs false
open Go.RowKit Go.Lib

theorem right_bounds (s : Slt) (h : rightS s = true) : 0 ≤ s.ver ∧ s.ver ≤ 281474976710656 ∧ 0 ≤ s.sz ∧ s.sz ≤ 65536 ∧ 0 ≤ s.tr ∧ s.tr ≤ 7 := by
  rcases right_st s h with k | k | k | k | k
  · unfold rightS noneS at h
    rw [k] at h
    simp at h
    omega
  · unfold rightS noneS at h
    rw [k] at h
    simp at h
    omega
  · unfold rightS noneS at h
    rw [k] at h
    simp at h
    omega
  · have := right_img s h (.inl k)
    omega
  · have := right_img s h (.inr k)
    omega
section
variable {W w : World} {I : Nat → Option Obj} {F : List (Nat × Obj)}
set_option maxRecDepth 100000 in
set_option maxHeartbeats 8000000 in
theorem ref_text (s : Slt) (ok : s.Ok) (h : St W w I F) :
    Calls Tryd.prog 33 #[s.val] w fun e w' => e = .returned (.string ⟨(textS s).toArray⟩) ∧ St W w' I F := by
  have h0 := h.alloc (.cells s.cells 26)
  obtain ⟨b, hb⟩ : ∃ b, w.heap.size = b := ⟨_, rfl⟩
  rw [hb] at h0
  have kR := fun (v : World) (F : List (Nat × Obj)) (hv : St W v I F) => ref_right s ok hv
  have HMI := Lib.hid (slot_info ok.dig)
  have H0 := Lib.hid h0
  clear h0 h
  unfold Slt.val at kR ⊢
  cases hR : rightS s with
  | false =>
    have hv : textS s = [] := by rw [textS, hR]; rfl
    rw [hR] at kR
    rw [hv]
    have KR := Lib.hid kR
    clear kR hR hv ok
    go_enter Tryd.func33, Tryd.ntmps33
    go_wp2_with (with_reducible refine wpList_load_st rfl 26 (.tmp 1) rfl (g := b) (off := 0) rfl H0.out (cs := s.cells) (t := 26) (fr := (0, 0)) (by simp) s.cells (fun j hj => by rw [Nat.zero_add]) _ Tryd.underlying26 rfl HMI.out ?_)
    refine (KR.out _ _ H0.out).mono ?_
    rintro e w2 ⟨rfl, h2⟩
    have H2 := Lib.hid h2
    clear h2 H0 KR hb
    go_wp2_with fail
    go_ret
    exact ⟨rfl, St.weaken (A := [_]) H2.out⟩
  | true =>
    rw [hR] at kR
    obtain ⟨r1, r2, r3, r4, r5, r6⟩ := right_bounds s hR
    have l2 := decD_len 20 s.ver.toNat (by omega) (by omega)
    have l3 := decD_len 20 s.sz.toNat (by omega) (by omega)
    have l4 := decD_len 20 s.tr.toNat (by omega) (by omega)
    have l6 : (textOf s.dig).length ≤ 64 := by have := textOf_len s.dig; rw [ok.dig] at this; omega
    have kT := fun (v : World) (F : List (Nat × Obj)) (hv : St W v I F) => rtext_any s.dig ok.dig hv
    rw [show bcells s.dig = (s.dig.map bval).toArray from rfl] at kT
    have sx : ∀ v, St W v I ((b, .cells s.cells 26 (0, 0)) :: F) → v.cell? ⟨b, 2, none⟩ = some (.int .u64 s.ver) ∧ v.cell? ⟨b, 3, none⟩ = some (.int .i64 s.sz) ∧ v.rangeAt b 4 (s.dig.map bval) := fun v hv => ⟨hv.slt.2.2.1, hv.slt.2.2.2, hv.hashAt⟩
    have hul : Tryd.prog.underlying 24 = some _ := Tryd.underlying24
    have hix : (Tryd.prog.info? 24).map (·.size) = some (s.dig.map bval).length := by rw [List.length_map, ok.dig]; kernel_rfl
    have kU := fun (v : World) (F : List (Nat × Obj)) (hv : St W v I F) => rdec_any s.ver.toNat (by omega) hv
    have kI := fun (v : World) (F : List (Nat × Obj)) (hv : St W v I F) => rdec_any s.sz.toNat (by omega) hv
    have kJ := fun (v : World) (F : List (Nat × Obj)) (hv : St W v I F) => rdec_any s.tr.toNat (by omega) hv
    rw [show ((s.ver.toNat : Nat) : Int) = s.ver by omega] at kU
    rw [show ((s.sz.toNat : Nat) : Int) = s.sz by omega] at kI
    rw [show ((s.tr.toNat : Nat) : Int) = s.tr by omega] at kJ
    have hst := right_st s hR
    have htx := textS.eq_1 s
    rw [hR, if_pos rfl] at htx
    unfold imgL at htx
    generalize Lib.decDigits s.ver.toNat = x2 at *
    generalize Lib.decDigits s.sz.toNat = x3 at *
    generalize Lib.decDigits s.tr.toNat = x4 at *
    generalize textOf s.dig = x5 at *
    have KR := Lib.hid kR
    have KU := Lib.hid kU; have KI := Lib.hid kI; have KJ := Lib.hid kJ; have KT := Lib.hid kT; have SX := Lib.hid sx; have HUL := Lib.hid hul; have HIX := Lib.hid hix; have HTX := Lib.hid htx
    clear kR hR ok kU kI kJ kT sx hul hix htx
    have z1 : ¬ (9223372036854775807 < 1 + x2.length) := by omega
    have z2 : ¬ (9223372036854775807 < 1 + x2.length + 1) := by omega
    have z3 : ¬ (9223372036854775807 < 1 + x2.length + 1 + x3.length) := by omega
    have z4 : ¬ (9223372036854775807 < 1 + x2.length + 1 + x3.length + 1) := by omega
    have z5 : ¬ (9223372036854775807 < 1 + x2.length + 1 + x3.length + 1 + x5.length) := by omega
    have z6 : ¬ (9223372036854775807 < 5 + (1 + x2.length + 1 + x3.length + 1 + x5.length)) := by omega
    have z9 : ¬ (9223372036854775807 < 4 + (1 + x2.length + 1 + x3.length + 1 + x5.length)) := by omega
    have z7 : ¬ (9223372036854775807 < 5 + (1 + x2.length + 1 + x3.length + 1 + x5.length) + 1) := by omega
    have z8 : ¬ (9223372036854775807 < 5 + (1 + x2.length + 1 + x3.length + 1 + x5.length) + 1 + x4.length) := by omega
    have hw1 : IntKind.u64.wrap s.sz = s.sz := IntWalk.u64_in _ (by omega)
    have hw2 : IntKind.u64.wrap s.tr = s.tr := IntWalk.u64_in _ (by omega)
    go_enter Tryd.func33, Tryd.ntmps33
    go_wp2_with (with_reducible refine wpList_load_st rfl 26 (.tmp 1) rfl (g := b) (off := 0) rfl H0.out (cs := s.cells) (t := 26) (fr := (0, 0)) (by simp) s.cells (fun j hj => by rw [Nat.zero_add]) _ Tryd.underlying26 rfl HMI.out ?_)
    refine (KR.out _ _ H0.out).mono ?_
    rintro e w2 ⟨rfl, h2⟩
    have hx := h2.drew1
    clear h2 H0 KR hb
    go_wp2_with fail
    refine wp_region_held_drew (S := fun v => v.cell? ⟨b, 2, none⟩ = some (.int .u64 s.ver) ∧ v.cell? ⟨b, 3, none⟩ = some (.int .i64 s.sz) ∧ v.rangeAt b 4 (s.dig.map bval)) (by kernel_rfl) (SX.out _ hx) (fun hHeld => ?_)
    refine wpAnyH_take (i := 0) (oi := ?_) (v := ?_) ?_ ?_ ?_ ?_ ?_ ?_ ?_ ?_
    rotate_left 2
    · (simp only [List.getElem?_toArray, List.getElem?_cons_succ, List.getElem?_cons_zero]; exact rfl)
    · kernel_rfl
    · kernel_rfl
    · kernel_rfl
    · exact fun _ _ _ h => h
    · first | (refine Or.inl ⟨by rfl, ?_⟩; intro w hSw; (try dsimp only at hSw); go_simp; try with_reducible rfl) | (refine Or.inr ⟨by rfl, ?_⟩; rfl)
    · assumption
    try simp only [Act.put, List.setIfInBounds_toArray, List.set_cons_zero, List.set_cons_succ]
    refine wpAnyH_take (i := 1) (oi := ?_) (v := ?_) ?_ ?_ ?_ ?_ ?_ ?_ ?_ ?_
    rotate_left 2
    · (simp only [List.getElem?_toArray, List.getElem?_cons_succ, List.getElem?_cons_zero]; exact rfl)
    · kernel_rfl
    · kernel_rfl
    · kernel_rfl
    · exact fun _ _ _ h => h
    · first | (first | ((refine yieldsIf_load_mid ?_ 24 (.tmp 18) ?_ b 4 ?_ (s.dig.map bval) _ ?_ HUL.out ?_ HIX.out) <;> first | rfl | exact fun w h => h.2.2) | (refine Or.inl ⟨by rfl, ?_⟩; intro w hSw; obtain ⟨hS1, hS2, hS3⟩ := hSw; go_simp; try with_reducible rfl)) | (refine Or.inr ⟨by rfl, ?_⟩; rfl)
    · assumption
    try simp only [Act.put, List.setIfInBounds_toArray, List.set_cons_zero, List.set_cons_succ]
    refine wpAnyH_take (i := 5) (oi := ?_) (v := ?_) ?_ ?_ ?_ ?_ ?_ ?_ ?_ ?_
    rotate_left 2
    · (simp only [List.getElem?_toArray, List.getElem?_cons_succ, List.getElem?_cons_zero]; exact rfl)
    · kernel_rfl
    · kernel_rfl
    · kernel_rfl
    · exact fun _ _ _ h => h
    · first | (refine Or.inl ⟨by rfl, ?_⟩; intro w hSw; (try dsimp only at hSw); go_simp; try with_reducible rfl) | (refine Or.inr ⟨by rfl, ?_⟩; rfl)
    · assumption
    try simp only [Act.put, List.setIfInBounds_toArray, List.set_cons_zero, List.set_cons_succ]
    refine wpAnyH_take (i := 6) (oi := ?_) (v := ?_) ?_ ?_ ?_ ?_ ?_ ?_ ?_ ?_
    rotate_left 2
    · (simp only [List.getElem?_toArray, List.getElem?_cons_succ, List.getElem?_cons_zero]; exact rfl)
    · kernel_rfl
    · kernel_rfl
    · kernel_rfl
    · exact fun _ _ _ h => h
    · first | (first | ((refine yieldsIf_load_mid ?_ 24 (.tmp 18) ?_ b 4 ?_ (s.dig.map bval) _ ?_ HUL.out ?_ HIX.out) <;> first | rfl | exact fun w h => h.2.2) | (refine Or.inl ⟨by rfl, ?_⟩; intro w hSw; obtain ⟨hS1, hS2, hS3⟩ := hSw; go_simp; try with_reducible rfl)) | (refine Or.inr ⟨by rfl, ?_⟩; rfl)
    · assumption
    try simp only [Act.put, List.setIfInBounds_toArray, List.set_cons_zero, List.set_cons_succ]
    refine wpAnyH_take (i := 7) (oi := ?_) (v := ?_) ?_ ?_ ?_ ?_ ?_ ?_ ?_ ?_
    rotate_left 2
    · (simp only [List.getElem?_toArray, List.getElem?_cons_succ, List.getElem?_cons_zero]; exact rfl)
    · kernel_rfl
    · kernel_rfl
    · kernel_rfl
    · exact fun _ _ _ h => h
    · first | (refine Or.inl ⟨by rfl, ?_⟩; intro w hSw; (try dsimp only at hSw); go_simp; try with_reducible rfl) | (refine Or.inr ⟨by rfl, ?_⟩; rfl)
    · assumption
    try simp only [Act.put, List.setIfInBounds_toArray, List.set_cons_zero, List.set_cons_succ]
    refine wpAnyH_take (i := 11) (oi := ?_) (v := ?_) ?_ ?_ ?_ ?_ ?_ ?_ ?_ ?_
    rotate_left 2
    · (simp only [List.getElem?_toArray, List.getElem?_cons_succ, List.getElem?_cons_zero]; exact rfl)
    · kernel_rfl
    · kernel_rfl
    · kernel_rfl
    · exact fun _ _ _ h => h
    · first | (refine Or.inl ⟨by rfl, ?_⟩; intro w hSw; (try dsimp only at hSw); go_simp; try with_reducible rfl) | (refine Or.inr ⟨by rfl, ?_⟩; rfl)
    · assumption
    try simp only [Act.put, List.setIfInBounds_toArray, List.set_cons_zero, List.set_cons_succ]
    refine wpAnyH_take (i := 12) (oi := ?_) (v := ?_) ?_ ?_ ?_ ?_ ?_ ?_ ?_ ?_
    rotate_left 2
    · (simp only [List.getElem?_toArray, List.getElem?_cons_succ, List.getElem?_cons_zero]; exact rfl)
    · kernel_rfl
    · kernel_rfl
    · kernel_rfl
    · exact fun _ _ _ h => h
    · first | (first | ((refine yieldsIf_load_mid ?_ 24 (.tmp 18) ?_ b 4 ?_ (s.dig.map bval) _ ?_ HUL.out ?_ HIX.out) <;> first | rfl | exact fun w h => h.2.2) | (refine Or.inl ⟨by rfl, ?_⟩; intro w hSw; obtain ⟨hS1, hS2, hS3⟩ := hSw; go_simp; try with_reducible rfl)) | (refine Or.inr ⟨by rfl, ?_⟩; rfl)
    · assumption
    try simp only [Act.put, List.setIfInBounds_toArray, List.set_cons_zero, List.set_cons_succ]
    refine wpAnyH_ready (rs := [2]) (by kernel_rfl) (by simp) ?_
    refine AllReadyH.cons (o := ?_) ?_ (fun K hK => ?_) ?_
    rotate_left 1
    · (simp only [List.getElem?_toArray, List.getElem?_cons_succ, List.getElem?_cons_zero]; exact rfl)
    · go_simp
      (first | (go_at_call 69; (with_reducible refine (KU.out _ _ hx).mono ?_); rintro e wx ⟨rfl, hx⟩; dsimp only) | (go_at_call 69; (with_reducible refine (KI.out _ _ hx).mono ?_); rintro e wx ⟨rfl, hx⟩; dsimp only) | (go_at_call 70; (with_reducible refine (KT.out _ _ hx).mono ?_); rintro e wx ⟨rfl, hx⟩; dsimp only))
      refine hK.out _ _ ?_ (fun hHeld => ?_)
      · (try dsimp only) <;> (first | exact SX.out _ hx | exact SX.out _ (hx.alloc_ _))
      clear hK K
      try simp only [Act.put, List.setIfInBounds_toArray, List.set_cons_zero, List.set_cons_succ]
      refine wpAnyH_take (i := 3) (oi := ?_) (v := ?_) ?_ ?_ ?_ ?_ ?_ ?_ ?_ ?_
      rotate_left 2
      · (simp only [List.getElem?_toArray, List.getElem?_cons_succ, List.getElem?_cons_zero]; exact rfl)
      · kernel_rfl
      · kernel_rfl
      · kernel_rfl
      · exact fun _ _ _ h => h
      · first | (refine Or.inl ⟨by rfl, ?_⟩; intro w hSw; (try dsimp only at hSw); go_simp; try with_reducible rfl) | (refine Or.inr ⟨by rfl, ?_⟩; rfl)
      · assumption
      try simp only [Act.put, List.setIfInBounds_toArray, List.set_cons_zero, List.set_cons_succ]
      refine wpAnyH_take (i := 4) (oi := ?_) (v := ?_) ?_ ?_ ?_ ?_ ?_ ?_ ?_ ?_
      rotate_left 2
      · (simp only [List.getElem?_toArray, List.getElem?_cons_succ, List.getElem?_cons_zero]; exact rfl)
      · kernel_rfl
      · kernel_rfl
      · kernel_rfl
      · exact fun _ _ _ h => h
      · first | (refine Or.inl ⟨by rfl, ?_⟩; intro w hSw; (try dsimp only at hSw); go_simp; try with_reducible rfl) | (refine Or.inr ⟨by rfl, ?_⟩; rfl)
      · assumption
      try simp only [Act.put, List.setIfInBounds_toArray, List.set_cons_zero, List.set_cons_succ]
      refine wpAnyH_ready (rs := [8]) (by kernel_rfl) (by simp) ?_
      refine AllReadyH.cons (o := ?_) ?_ (fun K hK => ?_) ?_
      rotate_left 1
      · (simp only [List.getElem?_toArray, List.getElem?_cons_succ, List.getElem?_cons_zero]; exact rfl)
      · go_simp
        (first | (go_at_call 69; (with_reducible refine (KU.out _ _ hx).mono ?_); rintro e wx ⟨rfl, hx⟩; dsimp only) | (go_at_call 69; (with_reducible refine (KI.out _ _ hx).mono ?_); rintro e wx ⟨rfl, hx⟩; dsimp only) | (go_at_call 70; (with_reducible refine (KT.out _ _ hx).mono ?_); rintro e wx ⟨rfl, hx⟩; dsimp only))
        refine hK.out _ _ ?_ (fun hHeld => ?_)
        · (try dsimp only) <;> (first | exact SX.out _ hx | exact SX.out _ (hx.alloc_ _))
        clear hK K
        try simp only [Act.put, List.setIfInBounds_toArray, List.set_cons_zero, List.set_cons_succ]
        refine wpAnyH_take (i := 9) (oi := ?_) (v := ?_) ?_ ?_ ?_ ?_ ?_ ?_ ?_ ?_
        rotate_left 2
        · (simp only [List.getElem?_toArray, List.getElem?_cons_succ, List.getElem?_cons_zero]; exact rfl)
        · kernel_rfl
        · kernel_rfl
        · kernel_rfl
        · exact fun _ _ _ h => h
        · first | (refine Or.inl ⟨by rfl, ?_⟩; intro w hSw; (try dsimp only at hSw); go_simp; try with_reducible rfl) | (refine Or.inr ⟨by rfl, ?_⟩; rfl)
        · assumption
        try simp only [Act.put, List.setIfInBounds_toArray, List.set_cons_zero, List.set_cons_succ]
        refine wpAnyH_take (i := 10) (oi := ?_) (v := ?_) ?_ ?_ ?_ ?_ ?_ ?_ ?_ ?_
        rotate_left 2
        · (simp only [List.getElem?_toArray, List.getElem?_cons_succ, List.getElem?_cons_zero]; exact rfl)
        · kernel_rfl
        · kernel_rfl
        · kernel_rfl
        · exact fun _ _ _ h => h
        · first | (refine Or.inl ⟨by rfl, ?_⟩; intro w hSw; (try dsimp only at hSw); go_simp; try with_reducible rfl) | (refine Or.inr ⟨by rfl, ?_⟩; rfl)
        · assumption
        try simp only [Act.put, List.setIfInBounds_toArray, List.set_cons_zero, List.set_cons_succ]
        refine wpAnyH_ready (rs := [13]) (by kernel_rfl) (by simp) ?_
        refine AllReadyH.cons (o := ?_) ?_ (fun K hK => ?_) ?_
        rotate_left 1
        · (simp only [List.getElem?_toArray, List.getElem?_cons_succ, List.getElem?_cons_zero]; exact rfl)
        · go_simp
          (first | (go_at_call 69; (with_reducible refine (KU.out _ _ hx).mono ?_); rintro e wx ⟨rfl, hx⟩; dsimp only) | (go_at_call 69; (with_reducible refine (KI.out _ _ hx).mono ?_); rintro e wx ⟨rfl, hx⟩; dsimp only) | (go_at_call 70; (with_reducible refine (KT.out _ _ hx).mono ?_); rintro e wx ⟨rfl, hx⟩; dsimp only))
          refine hK.out _ _ ?_ (fun hHeld => ?_)
          · (try dsimp only) <;> (first | exact SX.out _ hx | exact SX.out _ (hx.alloc_ _))
          clear hK K
          try simp only [Act.put, List.setIfInBounds_toArray, List.set_cons_zero, List.set_cons_succ]
          refine wpAnyH_take (i := 14) (oi := ?_) (v := ?_) ?_ ?_ ?_ ?_ ?_ ?_ ?_ ?_
          rotate_left 2
          · (simp only [List.getElem?_toArray, List.getElem?_cons_succ, List.getElem?_cons_zero]; exact rfl)
          · kernel_rfl
          · kernel_rfl
          · kernel_rfl
          · exact fun _ _ _ h => h
          · first | (refine Or.inl ⟨by rfl, ?_⟩; intro w hSw; (try dsimp only at hSw); go_simp; try with_reducible rfl) | (refine Or.inr ⟨by rfl, ?_⟩; rfl)
          · assumption
          try simp only [Act.put, List.setIfInBounds_toArray, List.set_cons_zero, List.set_cons_succ]
          refine wpAnyH_take (i := 15) (oi := ?_) (v := ?_) ?_ ?_ ?_ ?_ ?_ ?_ ?_ ?_
          rotate_left 2
          · (simp only [List.getElem?_toArray, List.getElem?_cons_succ, List.getElem?_cons_zero]; exact rfl)
          · kernel_rfl
          · kernel_rfl
          · kernel_rfl
          · exact fun _ _ _ h => h
          · first | (refine Or.inl ⟨by rfl, ?_⟩; intro w hSw; (try dsimp only at hSw); go_simp; try with_reducible rfl) | (refine Or.inr ⟨by rfl, ?_⟩; rfl)
          · assumption
          try simp only [Act.put, List.setIfInBounds_toArray, List.set_cons_zero, List.set_cons_succ]
          refine wpAnyH_done (by kernel_rfl) ?_ _
          have c0 := hx.slt.1
          have c1 := hx.slt.2.1
          have HX := Lib.hid hx
          clear hx
          rcases hst with k | k | k | k | k
          · have S := Lib.hid k
            rw [k] at c0
            clear k
            clear c1
            go_wp2_with fail
            go_ret
            refine ⟨?_, St.weaken (A := [_]) HX.out⟩
            rw [HTX.out, if_neg (by rw [S.out]; decide), if_neg (by rw [S.out]; decide), S.out]
            exact congrArg (fun s => Ending.returned (Value.string s)) (by apply ByteArray.ext; apply Array.toList_inj.1; simp [wordL])
          · have S := Lib.hid k
            rw [k] at c0
            clear k
            clear c1
            go_wp2_with fail
            go_ret
            refine ⟨?_, St.weaken (A := [_]) HX.out⟩
            rw [HTX.out, if_neg (by rw [S.out]; decide), if_neg (by rw [S.out]; decide), S.out]
            exact congrArg (fun s => Ending.returned (Value.string s)) (by apply ByteArray.ext; apply Array.toList_inj.1; simp [wordL])
          · have S := Lib.hid k
            rw [k] at c0
            clear k
            clear c1
            go_wp2_with fail
            go_ret
            refine ⟨?_, St.weaken (A := [_]) HX.out⟩
            rw [HTX.out, if_neg (by rw [S.out]; decide), if_neg (by rw [S.out]; decide), S.out]
            exact congrArg (fun s => Ending.returned (Value.string s)) (by apply ByteArray.ext; apply Array.toList_inj.1; simp [wordL])
          · have S := Lib.hid k
            rw [k] at c0
            clear k
            go_wp2_with fail
            refine (KJ.out _ _ HX.out).mono ?_
            rintro e w5 ⟨rfl, h5⟩
            have H5 := Lib.hid h5
            clear h5 HX
            go_wp2_with fail
            go_ret
            refine ⟨?_, St.weaken (A := [_]) H5.out⟩
            rw [HTX.out, if_pos S.out]
            exact congrArg (fun s => Ending.returned (Value.string s)) (by apply ByteArray.ext; apply Array.toList_inj.1; simp [wordL])
          · have S := Lib.hid k
            rw [k] at c0
            clear k
            clear c1
            go_wp2_with fail
            go_ret
            refine ⟨?_, St.weaken (A := [_]) HX.out⟩
            rw [HTX.out, if_neg (by rw [S.out]; decide), if_pos S.out]
            exact congrArg (fun s => Ending.returned (Value.string s)) (by apply ByteArray.ext; apply Array.toList_inj.1; simp [wordL])
        exact AllReadyH.nil
      exact AllReadyH.nil
    exact AllReadyH.nil
end
end

section
set_option linter.unusedVariables false
set_option linter.unusedSimpArgs false
open Go.RowKit Go.Lib

/-- Bytes cut at blanks. -/
def splA (cur : List UInt8) : List UInt8 → List (List UInt8)
  | [] => [cur]
  | c :: r => if c = 32 then cur :: splA [] r else splA (cur ++ [c]) r
theorem splA_word : ∀ (w cur r : List UInt8), (∀ c ∈ w, c ≠ 32) → splA cur (w ++ 32 :: r) = (cur ++ w) :: splA [] r
  | [], cur, r, _ => by simp [splA]
  | c :: w, cur, r, h => by
    rw [List.cons_append, splA, if_neg (h c (List.mem_cons_self ..)), splA_word w _ r (fun x hx => h x (List.mem_cons_of_mem _ hx))]
    simp
theorem splA_last : ∀ (w cur : List UInt8), (∀ c ∈ w, c ≠ 32) → splA cur w = [cur ++ w]
  | [], cur, _ => by simp [splA]
  | c :: w, cur, h => by
    rw [splA, if_neg (h c (List.mem_cons_self ..)), splA_last w _ (fun x hx => h x (List.mem_cons_of_mem _ hx))]
    simp
theorem ascii_decode (s : ByteArray) (p : Nat) (hb : (s.get! p).toNat < 128) : Utf8.decode s p = ((s.get! p).toNat, 1) := by
  rw [Lib.decode_at]
  unfold Lib.decodeN
  rw [if_pos hb]
theorem ext_toList (s : ByteArray) (a b : Nat) (hb : b ≤ s.size) : (s.extract a b).data.toList = (s.data.toList.drop a).take (b - a) := by
  simp [ByteArray.data_extract, List.take_drop]
theorem splG_ascii (s : ByteArray) (ha : ∀ p, p < s.size → (s.get! p).toNat < 128) : ∀ (f pos fr : Nat), s.size - pos ≤ f → fr ≤ pos → pos ≤ s.size →
    (splG s (runesFrom s f pos) fr).map (·.data.toList) = splA ((s.data.toList.drop fr).take (pos - fr)) (s.data.toList.drop pos)
  | 0, pos, fr, h, h1, h2 => by
    have hp : pos = s.size := by omega
    subst hp
    have hd : s.data.toList.drop s.size = [] := List.drop_eq_nil_of_le (by rw [Array.length_toList]; exact Nat.le_refl _)
    rw [show runesFrom s 0 s.size = [] from rfl, splG, hd, splA]
    simp only [List.map_cons, List.map_nil]
    rw [ext_toList s fr s.size (Nat.le_refl _)]
  | f + 1, pos, fr, h, h1, h2 => by
    by_cases hp : pos < s.size
    · have hl : pos < s.data.toList.length := by rw [Array.length_toList]; exact hp
      have hg : s.data.toList[pos]'hl = s.get! pos := by rw [get_lt s pos hp]; rfl
      rw [runesFrom_step s f pos hp, ascii_decode s pos (ha pos hp), List.drop_eq_getElem_cons hl, hg, splA, splG, ascii_decode s pos (ha pos hp)]
      simp only
      by_cases hc : s.get! pos = 32
      · rw [if_pos (by rw [hc]; rfl), if_pos hc, List.map_cons, splG_ascii s ha f (pos + 1) (pos + 1) (by omega) (by omega) (by omega), ext_toList s fr pos (by omega)]
        simp
      · rw [if_neg (fun h => hc (UInt8.toNat_inj.1 (by rw [h]; rfl))), if_neg hc, splG_ascii s ha f (pos + 1) fr (by omega) (by omega) (by omega)]
        congr 1
        rw [show pos + 1 - fr = (pos - fr) + 1 by omega, List.take_succ_eq_append_getElem (by rw [List.length_drop, Array.length_toList]; have : s.data.size = s.size := rfl; omega), List.getElem_drop]
        congr 2
        rw [← hg]
        congr 1
        omega
    · have hp : pos = s.size := by omega
      subst hp
      have hd : s.data.toList.drop s.size = [] := List.drop_eq_nil_of_le (by rw [Array.length_toList]; exact Nat.le_refl _)
      rw [runesFrom_end s _ _ hp, splG, hd, splA]
      simp only [List.map_cons, List.map_nil]
      rw [ext_toList s fr s.size (Nat.le_refl _)]
theorem mk_toList (x : ByteArray) : (⟨x.data.toList.toArray⟩ : ByteArray) = x := by
  apply ByteArray.ext
  simp
theorem splO_ascii (l : List UInt8) (ha : ∀ c ∈ l, c.toNat < 128) : splO ⟨l.toArray⟩ = (splA [] l).map fun z => ⟨z.toArray⟩ := by
  have h := splG_ascii ⟨l.toArray⟩ (fun p hp => by
    have hp2 : p < l.length := by simpa [ByteArray.size] using hp
    rw [get_lt _ p hp]
    exact ha _ (by
      have : (⟨l.toArray⟩ : ByteArray)[p]'hp = l[p]'hp2 := by simp [ByteArray.getElem_eq_getElem_data]
      rw [this]
      exact List.getElem_mem hp2)) (⟨l.toArray⟩ : ByteArray).size 0 0 (by omega) (by omega) (by omega)
  simp only [List.drop_zero, Nat.sub_zero, List.take_zero] at h
  have h2 : splO ⟨l.toArray⟩ = ((splO ⟨l.toArray⟩).map (·.data.toList)).map fun z => (⟨z.toArray⟩ : ByteArray) := by
    rw [List.map_map, show ((fun z : List UInt8 => (⟨z.toArray⟩ : ByteArray)) ∘ fun x : ByteArray => x.data.toList) = id from funext mk_toList, List.map_id]
  rw [h2, show splO ⟨l.toArray⟩ = splG ⟨l.toArray⟩ (runesFrom ⟨l.toArray⟩ (⟨l.toArray⟩ : ByteArray).size 0) 0 from rfl, h]
def okB (c : UInt8) : Prop := c ≠ 32 ∧ c.toNat < 128
theorem okB_dec (n : Nat) (h : n < 10 ^ 20) : ∀ c ∈ Lib.decDigits n, okB c := fun c hc => by
  have := decD_all 20 n h c hc
  refine ⟨fun h2 => ?_, by omega⟩
  rw [h2] at this
  exact absurd this.1 (by decide)
theorem okB_hex (n : Nat) (h : n < 16) : okB (hexd n) := by
  have := hexd_ne n h
  refine ⟨fun h2 => ?_, by omega⟩
  rw [h2] at this
  exact absurd this.2.1 (by decide)
theorem okB_text (bs : List UInt8) : ∀ c ∈ textOf bs, okB c := fun c hc => by
  unfold textOf at hc
  obtain ⟨b, _, hb⟩ := List.mem_flatMap.1 hc
  have hl := b.toNat_lt
  simp at hb
  rcases hb with rfl | rfl
  · exact okB_hex _ (by omega)
  · exact okB_hex _ (by omega)
theorem okB_word (n : Int) : ∀ c ∈ wordL n, okB c := fun c hc => by
  unfold wordL at hc
  repeat' split at hc
  all_goals simp at hc
  all_goals (try rcases hc with rfl | rfl | rfl | rfl | rfl)
  all_goals (try rcases hc with rfl | rfl | rfl | rfl)
  all_goals (try rcases hc with rfl | rfl | rfl)
  all_goals first | exact ⟨by decide, by decide⟩ | (rcases hc with rfl | rfl | rfl | rfl <;> exact ⟨by decide, by decide⟩)
theorem numO_dec (n : Nat) (h : n ≤ 18446744073709551615) : numO ⟨(Lib.decDigits n).toArray⟩ = n := by
  unfold numO
  rw [show (⟨(Lib.decDigits n).toArray⟩ : ByteArray).data.toList = Lib.decDigits n by simp, pN_dec _ _ h (by omega)]
  rfl
theorem textOf_get : ∀ (xs : List UInt8) (i : Nat), i < xs.length → (textOf xs).getD (2 * i) 0 = hexd ((xs.getD i 0).toNat / 16) ∧ (textOf xs).getD (2 * i + 1) 0 = hexd ((xs.getD i 0).toNat % 16)
  | [], i, h => by simp at h
  | b :: l, 0, _ => by simp [textOf]
  | b :: l, i + 1, h => by
    have ih := textOf_get l i (by simpa using h)
    have e : textOf (b :: l) = hexd (b.toNat / 16) :: hexd (b.toNat % 16) :: textOf l := by simp [textOf]
    rw [e, show 2 * (i + 1) = 2 * i + 1 + 1 by omega, show 2 * i + 1 + 1 + 1 = 2 * i + 1 + 1 + 1 from rfl]
    simpa using ih
theorem pgood_text (xs : List UInt8) (h : xs.length = 32) : pgood (textOf xs) = true := by
  rw [pgood_iff, textOf_len, h]
  refine ⟨rfl, fun i hi => ?_⟩
  obtain ⟨h1, h2⟩ := textOf_get xs i (by omega)
  have hb := (xs.getD i 0).toNat_lt
  unfold pdig
  rw [h1, h2, dig_hexd _ (by omega), dig_hexd _ (by omega)]
  omega
theorem pOut_text (xs : List UInt8) (h : xs.length = 32) : pOut (textOf xs) = xs := by
  rw [pOut, if_pos (pgood_text xs h)]
  apply List.ext_getElem
  · simp [pbytes, h]
  · intro i h1 h2
    obtain ⟨h3, h4⟩ := textOf_get xs i h2
    have hb := (xs.getD i 0).toNat_lt
    have e : pbyte (textOf xs) i = xs.getD i 0 := by
      unfold pbyte
      rw [h3, h4, dig_hexd _ (by omega), dig_hexd _ (by omega)]
      apply UInt8.toNat_inj.1
      rw [UInt8.toNat_ofNat']
      omega
    simp only [pbytes, List.getElem_map, List.getElem_range, e]
    rw [List.getD_eq_getElem?_getD, List.getElem?_eq_getElem h2]
    rfl
/-- The slot that its text says. -/
theorem parse_text (s : Slt) (hr : rightS s = true) (hd : s.dig.length = 32) : parseS ⟨(textS s).toArray⟩ = (s, 0) := by
  have hws := hr
  suffices h : pS (splO ⟨(textS s).toArray⟩) = s by
    unfold parseS
    rw [h, hr, if_pos]
    simp
  have hv := right_bounds s hr
  have ha : ∀ c ∈ textS s, c.toNat < 128 := fun c hc => by
    unfold textS imgL at hc
    rw [if_pos hr] at hc
    have w1 := okB_word s.st
    have w2 := okB_word 2
    have w3 := okB_word 3
    have d1 := okB_dec s.ver.toNat (by omega)
    have d2 := okB_dec s.sz.toNat (by omega)
    have d3 := okB_dec s.tr.toNat (by omega)
    have d4 := okB_text s.dig
    split at hc
    · simp only [List.mem_append, List.mem_singleton] at hc
      rcases hc with hc | (hc | hc | hc | hc | hc | hc) | hc | hc
      all_goals first
        | exact (w2 c hc).2
        | exact (d1 c hc).2
        | exact (d2 c hc).2
        | exact (d3 c hc).2
        | exact (d4 c hc).2
        | (subst hc; decide)
    · split at hc
      · simp only [List.mem_append, List.mem_singleton] at hc
        rcases hc with hc | hc | hc | hc | hc | hc | hc
        all_goals first
          | exact (w3 c hc).2
          | exact (d1 c hc).2
          | exact (d2 c hc).2
          | exact (d4 c hc).2
          | (subst hc; decide)
      · exact (w1 c hc).2
  rw [splO_ascii _ ha]
  have n1 : ∀ c ∈ Lib.decDigits s.ver.toNat, c ≠ 32 := fun c hc => (okB_dec s.ver.toNat (by omega) c hc).1
  have n2 : ∀ c ∈ Lib.decDigits s.sz.toNat, c ≠ 32 := fun c hc => (okB_dec s.sz.toNat (by omega) c hc).1
  have n3 : ∀ c ∈ Lib.decDigits s.tr.toNat, c ≠ 32 := fun c hc => (okB_dec s.tr.toNat (by omega) c hc).1
  have n4 : ∀ c ∈ textOf s.dig, c ≠ 32 := fun c hc => (okB_text s.dig c hc).1
  have nw : ∀ n, ∀ c ∈ wordL n, c ≠ 32 := fun n c hc => (okB_word n c hc).1
  have hi : ∀ n : Int, n = 0 ∨ n = 1 ∨ n = 4 ∨ n = 2 ∨ n = 3 → wIdx ⟨(wordL n).toArray⟩ = n := fun n hn => by
    rcases hn with rfl | rfl | rfl | rfl | rfl <;> decide +kernel
  have small : ∀ n : Int, (n = 0 ∨ n = 1 ∨ n = 4) → s.st = n → pS ((splA [] (textS s)).map fun z => ⟨z.toArray⟩) = s := fun n hn hk => by
    have e : textS s = wordL n := by
      unfold textS
      rw [if_pos hr, hk]
      rcases hn with rfl | rfl | rfl <;> rfl
    have hnone : noneS s = true := by
      unfold rightS at hr
      rw [hk, if_pos hn] at hr
      exact hr
    rw [e, splA_last _ _ (nw n)]
    simp only [List.nil_append, List.map_cons, List.map_nil]
    unfold pS
    simp only [List.getD_cons_zero]
    rw [hi n (by omega), if_neg (by simp)]
    unfold noneS at hnone
    simp only [Bool.and_eq_true, beq_iff_eq] at hnone
    obtain ⟨a, b, c, d⟩ := hnone
    unfold bareS
    rw [← hk, ← d]
    cases s
    simp only at a b c ⊢
    rw [a, b, c]
  rcases right_st s hr with k | k | k | k | k
  · exact small 0 (.inl rfl) k
  · exact small 1 (.inr (.inl rfl)) k
  · exact small 4 (.inr (.inr rfl)) k
  · have hb := right_img s hr (.inl k)
    have e : textS s = wordL 2 ++ 32 :: (Lib.decDigits s.ver.toNat ++ 32 :: (Lib.decDigits s.sz.toNat ++ 32 :: (textOf s.dig ++ 32 :: Lib.decDigits s.tr.toNat))) := by
      unfold textS imgL
      rw [if_pos hr, if_pos k]
      simp
    rw [e, splA_word _ _ _ (nw 2), splA_word _ _ _ n1, splA_word _ _ _ n2, splA_word _ _ _ n4, splA_last _ _ n3]
    simp only [List.nil_append, List.map_cons, List.map_nil]
    unfold pS
    simp only [List.getD_cons_zero, List.getD_cons_succ, List.length_cons, List.length_nil]
    rw [hi 2 (by omega), if_pos ⟨.inl rfl, by decide⟩, if_pos trivial, numO_dec _ (by omega), numO_dec _ (by omega), numO_dec _ (by omega), pOut_text _ hd]
    cases s
    simp only at hb k ⊢
    subst k
    congr 1 <;> omega
  · have hb := right_img s hr (.inr k)
    have ht : s.tr = 0 := by
      unfold rightS at hr
      rw [k] at hr
      simp at hr
      exact hr.1
    have e : textS s = wordL 3 ++ 32 :: (Lib.decDigits s.ver.toNat ++ 32 :: (Lib.decDigits s.sz.toNat ++ 32 :: textOf s.dig)) := by
      unfold textS imgL
      rw [if_pos hr, if_neg (by omega), if_pos k]
      simp
    rw [e, splA_word _ _ _ (nw 3), splA_word _ _ _ n1, splA_word _ _ _ n2, splA_last _ _ n4]
    simp only [List.nil_append, List.map_cons, List.map_nil]
    unfold pS
    simp only [List.getD_cons_zero, List.getD_cons_succ, List.length_cons, List.length_nil]
    rw [hi 3 (by omega), if_pos ⟨.inr rfl, by decide⟩, if_neg (by decide), numO_dec _ (by omega), numO_dec _ (by omega), pOut_text _ hd]
    cases s
    simp only at hb k ht ⊢
    subst k
    subst ht
    congr 1 <;> omega
end

section
set_option linter.unusedVariables false
set_option linter.unusedSimpArgs false
open Go.RowKit Go.Lib

/-- The chapter's slot. -/
def alv : Slt := ⟨3, 0, 7, 100, zeros32⟩
theorem alv_ok : alv.Ok := ⟨zeros_len, by decide, by decide, by decide, by decide, by decide, by decide, by decide, by decide⟩
theorem alv_lit : #[.int .i64 3, .int .i64 0, .int .u64 7, .int .i64 100, .int .u8 0, .int .u8 0, .int .u8 0, .int .u8 0, .int .u8 0, .int .u8 0, .int .u8 0, .int .u8 0, .int .u8 0, .int .u8 0, .int .u8 0, .int .u8 0, .int .u8 0, .int .u8 0, .int .u8 0, .int .u8 0, .int .u8 0, .int .u8 0, .int .u8 0, .int .u8 0, .int .u8 0, .int .u8 0, .int .u8 0, .int .u8 0, .int .u8 0, .int .u8 0, .int .u8 0, .int .u8 0, .int .u8 0, .int .u8 0, .int .u8 0, .int .u8 0] = alv.cells := by
  unfold alv Slt.cells zeros32
  rfl
theorem alv_right : rightS alv = true := by decide
theorem dec7 : Lib.decDigits 7 = [55] := by rw [Lib.decDigits]; rfl
theorem dec100 : Lib.decDigits 100 = [49, 48, 48] := by
  rw [Lib.decDigits, dif_neg (by decide), Lib.decDigits, dif_neg (by decide), Lib.decDigits, dif_pos (by decide)]
  rfl
theorem alv_text : textS alv = [103, 111, 111, 100, 32, 55, 32, 49, 48, 48, 32] ++ textOf zeros32 := by
  unfold textS imgL
  rw [if_pos alv_right, if_neg (by decide), if_pos (show alv.st = 3 from rfl)]
  rw [show alv.ver.toNat = 7 from rfl, show alv.sz.toNat = 100 from rfl, dec7, dec100]
  rfl
section
variable {W w : World} {I : Nat → Option Obj} {F : List (Nat × Obj)}
set_option maxRecDepth 100000 in
set_option maxHeartbeats 4000000 in
theorem slot_alive (sv : SV W I) (h : St W w I F) :
    Calls Tryd.prog 14 #[] w fun e w' => e = .returned (.bool true) ∧ St W w' I F := by
  have kT := slot_text sv alv alv_ok h
  obtain ⟨tx, htx⟩ : ∃ tx : ByteArray, (⟨(textS alv).toArray⟩ : ByteArray) = tx := ⟨_, rfl⟩
  have htl : tx.data.toList = [103, 111, 111, 100, 32, 55, 32, 49, 48, 48, 32] ++ textOf zeros32 := by rw [← htx, ← alv_text]
  have htz : tx.size = 75 := by
    have h1 : tx.size = tx.data.toList.length := by rw [Array.length_toList]; rfl
    rw [h1, htl, List.length_append, textOf_len, zeros_len]
    rfl
  have hpa : parseS tx = (alv, 0) := by rw [← htx]; exact parse_text alv alv_right zeros_len
  have hex : tx.extract 0 11 = ⟨#[103, 111, 111, 100, 32, 55, 32, 49, 48, 48, 32]⟩ := by
    apply ByteArray.ext
    apply Array.toList_inj.1
    rw [ext_toList tx 0 11 (by omega), htl]
    rfl
  rw [htx] at kT
  unfold Slt.val at kT
  rw [← alv_lit] at kT
  have kP := fun (v : World) (F : List (Nat × Obj)) (hv : St W v I F) => slot_parse sv tx (by omega) hv
  rw [hpa] at kP
  have kB := fun (v : World) (F : List (Nat × Obj)) (hv : St W v I F) => slot_boot alv alv_ok hv
  rw [show bootS alv = true by decide] at kB
  unfold Slt.val at kB
  have hsz : (tx.size : Int) = 75 := by omega
  have hmi := slot_info (s := alv) zeros_len
  obtain ⟨hfit, hsm⟩ := slot_fit (s := zS) (t := alv) zeros_len zeros_len
  have hone := Slt.one alv
  rw [show zS.cells = #[.int .i64 0, .int .i64 0, .int .u64 0, .int .i64 0, .int .u8 0, .int .u8 0, .int .u8 0, .int .u8 0, .int .u8 0, .int .u8 0, .int .u8 0, .int .u8 0, .int .u8 0, .int .u8 0, .int .u8 0, .int .u8 0, .int .u8 0, .int .u8 0, .int .u8 0, .int .u8 0, .int .u8 0, .int .u8 0, .int .u8 0, .int .u8 0, .int .u8 0, .int .u8 0, .int .u8 0, .int .u8 0, .int .u8 0, .int .u8 0, .int .u8 0, .int .u8 0, .int .u8 0, .int .u8 0, .int .u8 0, .int .u8 0] from bare_lit 0 ▸ rfl] at hfit hsm
  have HFIT := Lib.hid hfit; have HSM := Lib.hid hsm; have HMI := Lib.hid hmi; have HONE := Lib.hid hone
  have KT := Lib.hid kT; have KP := Lib.hid kP; have KB := Lib.hid kB; have HEX := Lib.hid hex
  clear kT kP kB htx htl hpa hfit hsm hone hmi h sv hex htz
  go_enter Tryd.func14, Tryd.ntmps14
  go_wp2_with fail
  refine KT.out.mono ?_
  rintro e w1 ⟨rfl, h1⟩
  have H1 := Lib.hid h1
  clear KT h1
  go_wp2_with fail
  refine (KP.out _ _ H1.out).mono ?_
  rintro e w2 ⟨rfl, h2⟩
  have hA := h2.alloc (.cells #[.int .i64 0, .int .i64 0, .int .u64 0, .int .i64 0, .int .u8 0, .int .u8 0, .int .u8 0, .int .u8 0, .int .u8 0, .int .u8 0, .int .u8 0, .int .u8 0, .int .u8 0, .int .u8 0, .int .u8 0, .int .u8 0, .int .u8 0, .int .u8 0, .int .u8 0, .int .u8 0, .int .u8 0, .int .u8 0, .int .u8 0, .int .u8 0, .int .u8 0, .int .u8 0, .int .u8 0, .int .u8 0, .int .u8 0, .int .u8 0, .int .u8 0, .int .u8 0, .int .u8 0, .int .u8 0, .int .u8 0, .int .u8 0] 26)
  have HA := Lib.hid hA
  clear KP h2 H1 hA
  dsimp only
  go_wp2_with (with_reducible refine wpList_store_st rfl 26 (.tmp 2) (.tmp 9) rfl (g := w2.heap.size) (off := 0) alv.cells rfl rfl HA.out HFIT.out HMI.out HONE.out ?_; intro w3 h3; refine Hid.out ?_)
  refine Lib.hid ?_
  rw [HSM.out] at h3
  generalize w2.heap.size = b at *
  have c2 := h3.slt.2.2.1
  have H3 := Lib.hid h3
  clear h3 HA
  have hex' := HEX.out
  go_wp2_with (refine wpList_load_g (by rfl) 26 (.tmp 2) rfl (g := b) (off := 0) rfl H3.out (cs := alv.cells) (t := 26) (fr := (0, 0)) (by simp) alv.cells (fun j hj => by rw [Nat.zero_add]) _ Tryd.underlying26 rfl HMI.out ?_)
  refine (KB.out _ _ H3.out).mono ?_
  rintro e w5 ⟨rfl, h5⟩
  have H5 := Lib.hid (St.weaken (A := [_]) h5)
  clear h5 KB
  go_wp2_with fail
  go_ret
  exact ⟨rfl, H5.out⟩
end
end

section
set_option linter.unusedVariables false
set_option linter.unusedSimpArgs false
open Go.RowKit Go.Lib Go.Shelf

abbrev SV0 (W : World) : Prop := SV W (fun b => W.heap[b]?)
theorem roCell_heap (W : World) (b i : Nat) : roCell (fun b => W.heap[b]?) ⟨b, i, none⟩ = W.cell? ⟨b, i, none⟩ := rfl
theorem pow_eq : (Rows.laid_internal_strconv_uint64pow10 : DataW Unit) = tabData .u64 Lib.pow10Tab := by kernel_rfl
theorem words_eq : (Rows.laid_bootjack_slot_words : DataW Unit) = .agg (wordsL.map fun z => .lit (.string z)) := by rfl
theorem sv_of_laid {l : List (String × DataW Unit)} {w : World} (h : laidMetH Tryd.prog l w) (hp : (l.all fun x => x.2.handleName?.isNone) = true)
    (h1 : ("internal/strconv.uint64pow10", Rows.laid_internal_strconv_uint64pow10) ∈ l) (h2 : ("strconv.ErrRange", Rows.laid_strconv_ErrRange) ∈ l) (h3 : ("strconv.ErrSyntax", Rows.laid_strconv_ErrSyntax) ∈ l)
    (h4 : ("bootjack/slot.words", Rows.laid_bootjack_slot_words) ∈ l) : SV0 w := by
  rw [MakeChecks.laidMetH_plain _ _ _ hp] at h
  have p10 : Lib.TabIs Tryd.prog w "internal/strconv.uint64pow10" .u64 Lib.pow10Tab := tabIs_of_reads (g := 8) (by kernel_rfl) (by kernel_rfl) Tryd.underlying160 Tryd.underlying22 (by kernel_rfl) (by kernel_rfl) (pow_eq ▸ Lib.laidMet.reads h h1)
  refine ⟨Le.refl _, ⟨p10⟩, ⟨?_, ?_⟩, fun i z hz => ?_⟩
  · exact iface_of_reads (g := 9) (by kernel_rfl) (by kernel_rfl) Tryd.underlying68 (Lib.laidMet.reads h h3)
  · exact iface_of_reads (g := 10) (by kernel_rfl) (by kernel_rfl) Tryd.underlying68 (Lib.laidMet.reads h h2)
  · rw [roCell_heap]
    exact strs_of_reads (g := 0) (by kernel_rfl) (by kernel_rfl) Tryd.underlying85 Tryd.underlying9 (by kernel_rfl) (by kernel_rfl) (words_eq ▸ Lib.laidMet.reads h h4) i z hz
theorem chk_len (s : Slt) (h : s.dig.length = 32) : (chkS s).1.dig.length = 32 := by
  unfold chkS
  split
  · exact h
  · exact zeros_len
theorem try_len (s : Slt) (h : s.dig.length = 32) : (tryS s).1.dig.length = 32 := by
  unfold tryS
  split
  · exact h
  · exact zeros_len
theorem good_len (s : Slt) (h : s.dig.length = 32) : (goodS s).1.dig.length = 32 := by
  unfold goodS
  split
  · exact h
  · exact zeros_len
theorem bad_len (s : Slt) (h : s.dig.length = 32) : (badS s).1.dig.length = 32 := by
  unfold badS
  split
  · exact zeros_len
  · exact zeros_len
section
variable {H : Type} {enc : TypeId × Value → H} {W : World}
theorem cel_hash {cs : List Value} (h : Cel enc Tryd.prog W 24 cs) : ∃ xs : List UInt8, xs.length = 32 ∧ cs = xs.map bval := by
  obtain ⟨hl, hf⟩ := h.array_ Tryd.underlying24
  have hl : cs.length = 32 := by rw [hl]; kernel_rfl
  have c1 : Tryd.prog.cellsOf 5 = 1 := by kernel_rfl
  rw [c1] at hf
  have hb : ∀ i, i < 32 → ∃ b : UInt8, cs[i]? = some (bval b) := fun i hi => by
    obtain ⟨b, hb⟩ := (hf i hi).byte Tryd.underlying5
    refine ⟨b, ?_⟩
    have := congrArg (·[0]?) hb
    simpa [List.getElem?_take, List.getElem?_drop] using this
  refine ⟨(List.range 32).map fun i => if h : i < 32 then Classical.choose (hb i h) else 0, by simp, ?_⟩
  apply List.ext_getElem?
  intro i
  by_cases hi : i < 32
  · rw [List.getElem?_map, List.getElem?_map, List.getElem?_range hi]
    simp only [Option.map_some, dif_pos hi]
    exact Classical.choose_spec (hb i hi)
  · rw [List.getElem?_eq_none (by omega), List.getElem?_eq_none (by simp; omega)]
theorem Arg.slot {v : Value} (h : Arg enc Tryd.prog W 26 v) : ∃ s : Slt, v = s.val ∧ s.Ok := by
  obtain ⟨cs, rfl, hl, _⟩ := h.struct_ Tryd.underlying26
  have h2 : Cel enc Tryd.prog W 26 cs := by simpa [Value.cells] using h.reads
  obtain ⟨hl, hf⟩ := h2.struct_ Tryd.underlying26
  have hl : cs.length = 36 := by rw [hl]; kernel_rfl
  have f0 : Cel enc Tryd.prog W 3 ((cs.drop 0).take (Tryd.prog.cellsOf 3)) := hf 0 _ rfl
  have f1 : Cel enc Tryd.prog W 3 ((cs.drop 1).take (Tryd.prog.cellsOf 3)) := hf 1 _ rfl
  have f2 : Cel enc Tryd.prog W 22 ((cs.drop 2).take (Tryd.prog.cellsOf 22)) := hf 2 _ rfl
  have f3 : Cel enc Tryd.prog W 3 ((cs.drop 3).take (Tryd.prog.cellsOf 3)) := hf 3 _ rfl
  have f4 : Cel enc Tryd.prog W 24 ((cs.drop 4).take (Tryd.prog.cellsOf 24)) := hf 4 _ rfl
  rw [show Tryd.prog.cellsOf 3 = 1 by kernel_rfl] at f0 f1 f3
  rw [show Tryd.prog.cellsOf 22 = 1 by kernel_rfl] at f2
  rw [show Tryd.prog.cellsOf 24 = 32 by kernel_rfl] at f4
  obtain ⟨n0, e0, w0⟩ := f0.int Tryd.underlying3
  obtain ⟨n1, e1, w1⟩ := f1.int Tryd.underlying3
  obtain ⟨n2, e2, w2⟩ := f2.int Tryd.underlying22
  obtain ⟨n3, e3, w3⟩ := f3.int Tryd.underlying3
  obtain ⟨ds, hd, e4⟩ := cel_hash f4
  obtain ⟨a0, b0⟩ := wf_i64 w0
  obtain ⟨a1, b1⟩ := wf_i64 w1
  obtain ⟨a3, b3⟩ := wf_i64 w3
  have w2' : 0 ≤ n2 ∧ n2 ≤ 18446744073709551615 := by
    simp [Lit.wf, IntKind.min, IntKind.max, IntKind.signed, IntKind.bits] at w2
    exact w2
  refine ⟨⟨n0, n1, n2, n3, ds⟩, ?_, ⟨hd, a0, b0, a1, b1, w2'.1, w2'.2, a3, b3⟩⟩
  have hcs : cs = [.int .i64 n0, .int .i64 n1, .int .u64 n2, .int .i64 n3] ++ ds.map bval := by
    have e5 : cs = (cs.drop 0).take 1 ++ ((cs.drop 1).take 1 ++ ((cs.drop 2).take 1 ++ ((cs.drop 3).take 1 ++ (cs.drop 4).take 32))) := by
      have a : ∀ k, cs.drop k = (cs.drop k).take 1 ++ cs.drop (k + 1) := fun k => by
        have h := (List.take_append_drop 1 (cs.drop k)).symm
        rwa [List.drop_drop] at h
      have b : (cs.drop 4).take 32 = cs.drop 4 := List.take_of_length_le (by rw [List.length_drop]; omega)
      rw [b]
      exact (a 0).trans (congrArg _ ((a 1).trans (congrArg _ ((a 2).trans (congrArg _ (a 3))))))
    rw [e5, e0, e1, e2, e3, e4]
    rfl
  unfold Slt.val Slt.cells
  rw [hcs]
end
end
end Go.Proofs.YtpjfmgifddoppaaDoor
