/- manifest.Text: walk. The document's manifest: Text: walk. -/
import Derived.Test.YtfbffmckmchbbaaDoorTxB
import Derived.Test.YtfbffmckmchbbaaDoorTxD
import Derived.Test.YtfbffmckmchbbaaDoorMlX
import Derived.Deep.RegionHeld3
import Derived.Test.YtfbffmckmchbbaaDoorTxC
import Derived.Test.YtfbffmckmchbbaaDoorManRS
namespace Go.Proofs.YtfbffmckmchbbaaDoor
section
set_option linter.unusedVariables false
set_option linter.unusedSimpArgs false
open Go.RowKit Go.Lib

/-- A manifest, as text. -/
def mTextL (m : Man) : List UInt8 := if rightM m = true then showOf m.prod ++ ([32] ++ (Lib.decDigits m.ver.toNat ++ ([32] ++ (Lib.decDigits m.size.toNat ++ ([32] ++ (Lib.decDigits m.chunk.toNat ++ ([32] ++ textOf m.dig))))))) else []
theorem itoa_nat (n : Int) (h : 0 ≤ n) : Lib.itoa n = Lib.decDigits n.toNat := by
  unfold Lib.itoa
  rw [if_neg (by omega)]
section
variable {W w : World} {I : Nat → Option Obj} {F : List (Nat × Obj)}
set_option maxRecDepth 100000 in
/-- Five texts in a new row, joined by a blank. -/
theorem join5 (a b c d e : List UInt8) (hl : a.length + b.length + c.length + d.length + e.length ≤ 100000000000) (h : St W w I F) :
    Calls Tryd.prog 48 #[.slice (some ⟨w.heap.size, 0, none⟩) 5 5, .string ⟨#[32]⟩] (w.alloc (.cells #[.string ⟨a.toArray⟩, .string ⟨b.toArray⟩, .string ⟨c.toArray⟩, .string ⟨d.toArray⟩, .string ⟨e.toArray⟩] 9)) fun x w' => x = .returned (.string ⟨(a ++ ([32] ++ (b ++ ([32] ++ (c ++ ([32] ++ (d ++ ([32] ++ e)))))))).toArray⟩) ∧ St W w' I F := by
  have hj : Lib.join ([(⟨a.toArray⟩ : ByteArray), ⟨b.toArray⟩, ⟨c.toArray⟩, ⟨d.toArray⟩, ⟨e.toArray⟩].map (·.data.toList)) (⟨#[32]⟩ : ByteArray).data.toList = a ++ ([32] ++ (b ++ ([32] ++ (c ++ ([32] ++ (d ++ ([32] ++ e))))))) := by
    simp only [List.map_cons, List.map_nil]
    rw [Lib.join_cons]
    simp [Lib.joinTail]
  have k := Tryd.strings_Join w.heap.size 0 5 [⟨a.toArray⟩, ⟨b.toArray⟩, ⟨c.toArray⟩, ⟨d.toArray⟩, ⟨e.toArray⟩] ⟨#[32]⟩ (w.alloc (.cells #[.string ⟨a.toArray⟩, .string ⟨b.toArray⟩, .string ⟨c.toArray⟩, .string ⟨d.toArray⟩, .string ⟨e.toArray⟩] 9))
    (fun j x hx => by
      rw [World.cell?_alloc_new, Nat.zero_add]
      match j, hx with
      | 0, hx => simp at hx; subst hx; rfl
      | 1, hx => simp at hx; subst hx; rfl
      | 2, hx => simp at hx; subst hx; rfl
      | 3, hx => simp at hx; subst hx; rfl
      | 4, hx => simp at hx; subst hx; rfl
      | j + 5, hx => simp at hx)
    (by simp) (by simp) (by simp) (by rw [hj]; simp; omega)
  rw [hj] at k
  exact k.mono fun x w' ⟨hx, hb⟩ => ⟨hx, (h.alloc_ _).belowTo hb⟩
set_option maxRecDepth 100000 in
set_option maxHeartbeats 4000000 in
theorem mtext (t : TB W I) (t10 : Tab10 W) (ht : roCell I ⟨8, 15, none⟩ = some (.int .u8 4)) (m : Man) (ok : m.Ok) (hps : m.prod.size ≤ 500000) (h : St W w I F) :
    Calls Tryd.prog 25 #[m.val] w fun e w' => e = .returned (.string ⟨(mTextL m).toArray⟩) ∧ St W w' I F := by
  have h0 := h.alloc (.cells m.cells 29)
  obtain ⟨ba, hba⟩ : ∃ b, w.heap.size = b := ⟨_, rfl⟩
  rw [hba] at h0
  have hmi : (Tryd.prog.info? 29).map (·.size) = some m.cells.size := by rw [Man.cells_size ok]; kernel_rfl
  have kR := fun (v : World) (F : List (Nat × Obj)) (hv : St W v I F) => right_own t m ok (by omega) hv
  obtain ⟨R, hR⟩ : ∃ R, rightM m = R := ⟨_, rfl⟩
  obtain ⟨X, hX⟩ : ∃ X, mTextL m = X := ⟨_, rfl⟩
  rw [hX]
  rw [hR] at kR
  rw [show m.val = .agg m.cells from rfl] at kR ⊢
  have H0 := Lib.hid h0; have KR := Lib.hid kR; have HMI := Lib.hid hmi; have HR := Lib.hid hR; have HX := Lib.hid hX; have OK := Lib.hid ok; have TT := Lib.hid t; have T10 := Lib.hid t10; have HT := Lib.hid ht
  clear h0 kR hmi hR hX h t t10 ht
  go_enter Tryd.func25, Tryd.ntmps25
  go_wp2_with (with_reducible refine wpList_load_st rfl 29 (.tmp 1) rfl (g := ba) (off := 0) rfl H0.out (cs := m.cells) (t := 29) (fr := (0, 0)) (by simp) m.cells (fun j hj => by rw [Nat.zero_add]) _ Tryd.underlying29 rfl HMI.out ?_)
  refine (KR.out _ _ H0.out).mono ?_
  rintro e w2 ⟨rfl, h2⟩
  have H2 := Lib.hid h2
  clear h2 H0 KR
  cases R with
  | false =>
    have hX0 : X = [] := by rw [← HX.out, mTextL, HR.out]; rfl
    subst hX0
    go_wp2_with fail
    go_ret
    exact ⟨rfl, St.weaken (A := [_]) H2.out⟩
  | true =>
    obtain ⟨r1, r2, r3, r4, r5, r6, r7, r8, r9, r10⟩ := (rightM_iff m).1 HR.out
    have hXe : showOf m.prod ++ ([32] ++ (Lib.decDigits m.ver.toNat ++ ([32] ++ (Lib.itoa m.size ++ ([32] ++ (Lib.itoa m.chunk ++ ([32] ++ textOf m.dig))))))) = X := by
      rw [itoa_nat _ (by omega), itoa_nat _ (by omega), ← HX.out, mTextL, if_pos HR.out]
    have l1 := showOf_len m.prod
    have l2 := decD_len 20 m.ver.toNat (by omega) (by omega)
    have l3 := decD_len 20 m.size.toNat (by omega) (by omega)
    have l4 := decD_len 20 m.chunk.toNat (by omega) (by omega)
    rw [← itoa_nat _ (by omega)] at l3 l4
    have l5 := textOf_len m.dig
    rw [OK.out.dig] at l5
    have kS := fun (v : World) (F : List (Nat × Obj)) (hv : St W v I F) => show_any TT.out HT.out m.prod (by omega) hv
    have kU := fun (v : World) (F : List (Nat × Obj)) (hv : St W v I F) => fmtU T10.out TT.out.le m.ver.toNat (by omega) hv
    have kI := fun (v : World) (F : List (Nat × Obj)) (hv : St W v I F) => itoa_any T10.out TT.out.le m.size (by omega) (by omega) hv
    have kJ := fun (v : World) (F : List (Nat × Obj)) (hv : St W v I F) => itoa_any T10.out TT.out.le m.chunk (by omega) (by omega) hv
    have kT := fun (v : World) (F : List (Nat × Obj)) (hv : St W v I F) => text_any m.dig OK.out.dig hv
    rw [show ((m.ver.toNat : Nat) : Int) = m.ver by omega] at kU
    have kX := fun (v : World) (F : List (Nat × Obj)) (hv : St W v I F) => join5 (showOf m.prod) (Lib.decDigits m.ver.toNat) (Lib.itoa m.size) (Lib.itoa m.chunk) (textOf m.dig) (by omega) hv
    rw [hXe] at kX
    have sx : ∀ v, St W v I ((ba, Obj.cells m.cells 29 (0, 0)) :: F) → v.cell? ⟨ba, 0, none⟩ = some (.string m.prod) ∧ v.cell? ⟨ba, 1, none⟩ = some (.int .u64 m.ver) ∧ v.cell? ⟨ba, 2, none⟩ = some (.int .i64 m.size) ∧ v.cell? ⟨ba, 3, none⟩ = some (.int .i64 m.chunk) ∧ v.rangeAt ba 4 (m.dig.map bval) := fun v hv => by
      obtain ⟨a0, a1, a2, a3, _⟩ := man_cells OK.out hv (b := ba) (by simp)
      refine ⟨a0, a1, a2, a3, hv.rangeAt (g := ba) (cs := m.cells) (t := 29) (fr := (0, 0)) (by simp) (fun j hj => ?_)⟩
      have hj2 : j < m.dig.length := by simpa using hj
      unfold Man.cells
      rw [List.getElem?_toArray, List.getElem?_append_left (by simp; omega), List.getElem?_append_right (by simp)]
      simp
    have hul : Tryd.prog.underlying 26 = some _ := Tryd.underlying26
    have hix : (Tryd.prog.info? 26).map (·.size) = some (m.dig.map bval).length := by rw [List.length_map, OK.out.dig]; kernel_rfl
    have hx := H2.out.drew1
    have hbc : bcells m.dig = (m.dig.map bval).toArray := rfl
    rw [hbc] at kT
    generalize showOf m.prod = x1 at *
    generalize Lib.decDigits m.ver.toNat = x2 at *
    generalize Lib.itoa m.size = x3 at *
    generalize Lib.itoa m.chunk = x4 at *
    generalize textOf m.dig = x5 at *
    have KS := Lib.hid kS; have KU := Lib.hid kU; have KI := Lib.hid kI; have KJ := Lib.hid kJ; have KT := Lib.hid kT; have KX := Lib.hid kX; have SX := Lib.hid sx; have HUL := Lib.hid hul; have HIX := Lib.hid hix
    clear kS kU kI kJ kT kX sx hul hix hbc hXe l1 l2 l3 l4 l5
    go_wp2_with fail
    refine wp_region_held_drew (S := fun v => v.cell? ⟨ba, 0, none⟩ = some (.string m.prod) ∧ v.cell? ⟨ba, 1, none⟩ = some (.int .u64 m.ver) ∧ v.cell? ⟨ba, 2, none⟩ = some (.int .i64 m.size) ∧ v.cell? ⟨ba, 3, none⟩ = some (.int .i64 m.chunk) ∧ v.rangeAt ba 4 (m.dig.map bval)) (by kernel_rfl) (SX.out _ hx) (fun hHeld => ?_)
    refine wpAnyH_take (i := 0) (oi := ?_) (v := ?_) ?_ ?_ ?_ ?_ ?_ ?_ ?_ ?_
    rotate_left 2
    · (simp only [List.getElem?_toArray, List.getElem?_cons_succ, List.getElem?_cons_zero]; exact rfl)
    · kernel_rfl
    · kernel_rfl
    · kernel_rfl
    · exact fun _ _ _ h => h
    · first | (refine Or.inl ⟨by rfl, ?_⟩; intro w hSw; (try dsimp only at hSw); go_simp; try with_reducible rfl) | (refine Or.inr ⟨by rfl, ?_⟩; rfl)
    · assumption
    try simp only [Act.put, List.setIfInBounds_toArray, List.set_cons_zero, List.set_cons_succ]
    refine wpAnyH_take (i := 1) (oi := ?_) (v := ?_) ?_ ?_ ?_ ?_ ?_ ?_ ?_ ?_
    rotate_left 2
    · (simp only [List.getElem?_toArray, List.getElem?_cons_succ, List.getElem?_cons_zero]; exact rfl)
    · kernel_rfl
    · kernel_rfl
    · kernel_rfl
    · exact fun _ _ _ h => h
    · first | (first | ((refine yieldsIf_load_mid ?_ 26 (.tmp 18) ?_ ba 4 ?_ (m.dig.map bval) _ ?_ HUL.out ?_ HIX.out) <;> first | rfl | exact fun w h => h.2.2.2.2) | (refine Or.inl ⟨by rfl, ?_⟩; intro w hSw; obtain ⟨hS1, hS2, hS3, hS4, hS5⟩ := hSw; go_simp; try with_reducible rfl)) | (refine Or.inr ⟨by rfl, ?_⟩; rfl)
    · assumption
    try simp only [Act.put, List.setIfInBounds_toArray, List.set_cons_zero, List.set_cons_succ]
    refine wpAnyH_take (i := 3) (oi := ?_) (v := ?_) ?_ ?_ ?_ ?_ ?_ ?_ ?_ ?_
    rotate_left 2
    · (simp only [List.getElem?_toArray, List.getElem?_cons_succ, List.getElem?_cons_zero]; exact rfl)
    · kernel_rfl
    · kernel_rfl
    · kernel_rfl
    · exact fun _ _ _ h => h
    · first | (refine Or.inl ⟨by rfl, ?_⟩; intro w hSw; (try dsimp only at hSw); go_simp; try with_reducible rfl) | (refine Or.inr ⟨by rfl, ?_⟩; rfl)
    · assumption
    try simp only [Act.put, List.setIfInBounds_toArray, List.set_cons_zero, List.set_cons_succ]
    refine wpAnyH_take (i := 4) (oi := ?_) (v := ?_) ?_ ?_ ?_ ?_ ?_ ?_ ?_ ?_
    rotate_left 2
    · (simp only [List.getElem?_toArray, List.getElem?_cons_succ, List.getElem?_cons_zero]; exact rfl)
    · kernel_rfl
    · kernel_rfl
    · kernel_rfl
    · exact fun _ _ _ h => h
    · first | (first | ((refine yieldsIf_load_mid ?_ 26 (.tmp 18) ?_ ba 4 ?_ (m.dig.map bval) _ ?_ HUL.out ?_ HIX.out) <;> first | rfl | exact fun w h => h.2.2.2.2) | (refine Or.inl ⟨by rfl, ?_⟩; intro w hSw; obtain ⟨hS1, hS2, hS3, hS4, hS5⟩ := hSw; go_simp; try with_reducible rfl)) | (refine Or.inr ⟨by rfl, ?_⟩; rfl)
    · assumption
    try simp only [Act.put, List.setIfInBounds_toArray, List.set_cons_zero, List.set_cons_succ]
    refine wpAnyH_take (i := 6) (oi := ?_) (v := ?_) ?_ ?_ ?_ ?_ ?_ ?_ ?_ ?_
    rotate_left 2
    · (simp only [List.getElem?_toArray, List.getElem?_cons_succ, List.getElem?_cons_zero]; exact rfl)
    · kernel_rfl
    · kernel_rfl
    · kernel_rfl
    · exact fun _ _ _ h => h
    · first | (refine Or.inl ⟨by rfl, ?_⟩; intro w hSw; (try dsimp only at hSw); go_simp; try with_reducible rfl) | (refine Or.inr ⟨by rfl, ?_⟩; rfl)
    · assumption
    try simp only [Act.put, List.setIfInBounds_toArray, List.set_cons_zero, List.set_cons_succ]
    refine wpAnyH_take (i := 7) (oi := ?_) (v := ?_) ?_ ?_ ?_ ?_ ?_ ?_ ?_ ?_
    rotate_left 2
    · (simp only [List.getElem?_toArray, List.getElem?_cons_succ, List.getElem?_cons_zero]; exact rfl)
    · kernel_rfl
    · kernel_rfl
    · kernel_rfl
    · exact fun _ _ _ h => h
    · first | (first | ((refine yieldsIf_load_mid ?_ 26 (.tmp 18) ?_ ba 4 ?_ (m.dig.map bval) _ ?_ HUL.out ?_ HIX.out) <;> first | rfl | exact fun w h => h.2.2.2.2) | (refine Or.inl ⟨by rfl, ?_⟩; intro w hSw; obtain ⟨hS1, hS2, hS3, hS4, hS5⟩ := hSw; go_simp; try with_reducible rfl)) | (refine Or.inr ⟨by rfl, ?_⟩; rfl)
    · assumption
    try simp only [Act.put, List.setIfInBounds_toArray, List.set_cons_zero, List.set_cons_succ]
    refine wpAnyH_take (i := 9) (oi := ?_) (v := ?_) ?_ ?_ ?_ ?_ ?_ ?_ ?_ ?_
    rotate_left 2
    · (simp only [List.getElem?_toArray, List.getElem?_cons_succ, List.getElem?_cons_zero]; exact rfl)
    · kernel_rfl
    · kernel_rfl
    · kernel_rfl
    · exact fun _ _ _ h => h
    · first | (refine Or.inl ⟨by rfl, ?_⟩; intro w hSw; (try dsimp only at hSw); go_simp; try with_reducible rfl) | (refine Or.inr ⟨by rfl, ?_⟩; rfl)
    · assumption
    try simp only [Act.put, List.setIfInBounds_toArray, List.set_cons_zero, List.set_cons_succ]
    refine wpAnyH_take (i := 10) (oi := ?_) (v := ?_) ?_ ?_ ?_ ?_ ?_ ?_ ?_ ?_
    rotate_left 2
    · (simp only [List.getElem?_toArray, List.getElem?_cons_succ, List.getElem?_cons_zero]; exact rfl)
    · kernel_rfl
    · kernel_rfl
    · kernel_rfl
    · exact fun _ _ _ h => h
    · first | (first | ((refine yieldsIf_load_mid ?_ 26 (.tmp 18) ?_ ba 4 ?_ (m.dig.map bval) _ ?_ HUL.out ?_ HIX.out) <;> first | rfl | exact fun w h => h.2.2.2.2) | (refine Or.inl ⟨by rfl, ?_⟩; intro w hSw; obtain ⟨hS1, hS2, hS3, hS4, hS5⟩ := hSw; go_simp; try with_reducible rfl)) | (refine Or.inr ⟨by rfl, ?_⟩; rfl)
    · assumption
    try simp only [Act.put, List.setIfInBounds_toArray, List.set_cons_zero, List.set_cons_succ]
    refine wpAnyH_take (i := 12) (oi := ?_) (v := ?_) ?_ ?_ ?_ ?_ ?_ ?_ ?_ ?_
    rotate_left 2
    · (simp only [List.getElem?_toArray, List.getElem?_cons_succ, List.getElem?_cons_zero]; exact rfl)
    · kernel_rfl
    · kernel_rfl
    · kernel_rfl
    · exact fun _ _ _ h => h
    · first | (refine Or.inl ⟨by rfl, ?_⟩; intro w hSw; (try dsimp only at hSw); go_simp; try with_reducible rfl) | (refine Or.inr ⟨by rfl, ?_⟩; rfl)
    · assumption
    try simp only [Act.put, List.setIfInBounds_toArray, List.set_cons_zero, List.set_cons_succ]
    refine wpAnyH_take (i := 13) (oi := ?_) (v := ?_) ?_ ?_ ?_ ?_ ?_ ?_ ?_ ?_
    rotate_left 2
    · (simp only [List.getElem?_toArray, List.getElem?_cons_succ, List.getElem?_cons_zero]; exact rfl)
    · kernel_rfl
    · kernel_rfl
    · kernel_rfl
    · exact fun _ _ _ h => h
    · first | (first | ((refine yieldsIf_load_mid ?_ 26 (.tmp 18) ?_ ba 4 ?_ (m.dig.map bval) _ ?_ HUL.out ?_ HIX.out) <;> first | rfl | exact fun w h => h.2.2.2.2) | (refine Or.inl ⟨by rfl, ?_⟩; intro w hSw; obtain ⟨hS1, hS2, hS3, hS4, hS5⟩ := hSw; go_simp; try with_reducible rfl)) | (refine Or.inr ⟨by rfl, ?_⟩; rfl)
    · assumption
    try simp only [Act.put, List.setIfInBounds_toArray, List.set_cons_zero, List.set_cons_succ]
    refine wpAnyH_ready (rs := [2]) (by kernel_rfl) (by simp) ?_
    refine AllReadyH.cons (o := ?_) ?_ (fun K hK => ?_) ?_
    rotate_left 1
    · (simp only [List.getElem?_toArray, List.getElem?_cons_succ, List.getElem?_cons_zero]; exact rfl)
    · go_simp
      (first | (go_at_call 49; (with_reducible refine (KS.out _ _ hx).mono ?_); rintro e wx ⟨rfl, hx⟩; dsimp only) | (go_at_call 50; (with_reducible refine (KU.out _ _ hx).mono ?_); rintro e wx ⟨rfl, hx⟩; dsimp only) | (go_at_call 51; (with_reducible refine (KI.out _ _ hx).mono ?_); rintro e wx ⟨rfl, hx⟩; dsimp only) | (go_at_call 51; (with_reducible refine (KJ.out _ _ hx).mono ?_); rintro e wx ⟨rfl, hx⟩; dsimp only) | (go_at_call 52; (with_reducible refine (KT.out _ _ hx).mono ?_); rintro e wx ⟨rfl, hx⟩; dsimp only) | (go_at_call 48; (with_reducible refine (KX.out _ _ hx).mono ?_); rintro e wx ⟨rfl, hx⟩; dsimp only))
      refine hK.out _ _ ?_ (fun hHeld => ?_)
      · (try dsimp only) <;> (first | exact SX.out _ hx | exact SX.out _ (hx.alloc_ _))
      clear hK K
      try simp only [Act.put, List.setIfInBounds_toArray, List.set_cons_zero, List.set_cons_succ]
      refine wpAnyH_ready (rs := [5]) (by kernel_rfl) (by simp) ?_
      refine AllReadyH.cons (o := ?_) ?_ (fun K hK => ?_) ?_
      rotate_left 1
      · (simp only [List.getElem?_toArray, List.getElem?_cons_succ, List.getElem?_cons_zero]; exact rfl)
      · go_simp
        (first | (go_at_call 49; (with_reducible refine (KS.out _ _ hx).mono ?_); rintro e wx ⟨rfl, hx⟩; dsimp only) | (go_at_call 50; (with_reducible refine (KU.out _ _ hx).mono ?_); rintro e wx ⟨rfl, hx⟩; dsimp only) | (go_at_call 51; (with_reducible refine (KI.out _ _ hx).mono ?_); rintro e wx ⟨rfl, hx⟩; dsimp only) | (go_at_call 51; (with_reducible refine (KJ.out _ _ hx).mono ?_); rintro e wx ⟨rfl, hx⟩; dsimp only) | (go_at_call 52; (with_reducible refine (KT.out _ _ hx).mono ?_); rintro e wx ⟨rfl, hx⟩; dsimp only) | (go_at_call 48; (with_reducible refine (KX.out _ _ hx).mono ?_); rintro e wx ⟨rfl, hx⟩; dsimp only))
        refine hK.out _ _ ?_ (fun hHeld => ?_)
        · (try dsimp only) <;> (first | exact SX.out _ hx | exact SX.out _ (hx.alloc_ _))
        clear hK K
        try simp only [Act.put, List.setIfInBounds_toArray, List.set_cons_zero, List.set_cons_succ]
        refine wpAnyH_ready (rs := [8]) (by kernel_rfl) (by simp) ?_
        refine AllReadyH.cons (o := ?_) ?_ (fun K hK => ?_) ?_
        rotate_left 1
        · (simp only [List.getElem?_toArray, List.getElem?_cons_succ, List.getElem?_cons_zero]; exact rfl)
        · go_simp
          (first | (go_at_call 49; (with_reducible refine (KS.out _ _ hx).mono ?_); rintro e wx ⟨rfl, hx⟩; dsimp only) | (go_at_call 50; (with_reducible refine (KU.out _ _ hx).mono ?_); rintro e wx ⟨rfl, hx⟩; dsimp only) | (go_at_call 51; (with_reducible refine (KI.out _ _ hx).mono ?_); rintro e wx ⟨rfl, hx⟩; dsimp only) | (go_at_call 51; (with_reducible refine (KJ.out _ _ hx).mono ?_); rintro e wx ⟨rfl, hx⟩; dsimp only) | (go_at_call 52; (with_reducible refine (KT.out _ _ hx).mono ?_); rintro e wx ⟨rfl, hx⟩; dsimp only) | (go_at_call 48; (with_reducible refine (KX.out _ _ hx).mono ?_); rintro e wx ⟨rfl, hx⟩; dsimp only))
          refine hK.out _ _ ?_ (fun hHeld => ?_)
          · (try dsimp only) <;> (first | exact SX.out _ hx | exact SX.out _ (hx.alloc_ _))
          clear hK K
          try simp only [Act.put, List.setIfInBounds_toArray, List.set_cons_zero, List.set_cons_succ]
          refine wpAnyH_ready (rs := [11]) (by kernel_rfl) (by simp) ?_
          refine AllReadyH.cons (o := ?_) ?_ (fun K hK => ?_) ?_
          rotate_left 1
          · (simp only [List.getElem?_toArray, List.getElem?_cons_succ, List.getElem?_cons_zero]; exact rfl)
          · go_simp
            (first | (go_at_call 49; (with_reducible refine (KS.out _ _ hx).mono ?_); rintro e wx ⟨rfl, hx⟩; dsimp only) | (go_at_call 50; (with_reducible refine (KU.out _ _ hx).mono ?_); rintro e wx ⟨rfl, hx⟩; dsimp only) | (go_at_call 51; (with_reducible refine (KI.out _ _ hx).mono ?_); rintro e wx ⟨rfl, hx⟩; dsimp only) | (go_at_call 51; (with_reducible refine (KJ.out _ _ hx).mono ?_); rintro e wx ⟨rfl, hx⟩; dsimp only) | (go_at_call 52; (with_reducible refine (KT.out _ _ hx).mono ?_); rintro e wx ⟨rfl, hx⟩; dsimp only) | (go_at_call 48; (with_reducible refine (KX.out _ _ hx).mono ?_); rintro e wx ⟨rfl, hx⟩; dsimp only))
            refine hK.out _ _ ?_ (fun hHeld => ?_)
            · (try dsimp only) <;> (first | exact SX.out _ hx | exact SX.out _ (hx.alloc_ _))
            clear hK K
            try simp only [Act.put, List.setIfInBounds_toArray, List.set_cons_zero, List.set_cons_succ]
            refine wpAnyH_ready (rs := [14]) (by kernel_rfl) (by simp) ?_
            refine AllReadyH.cons (o := ?_) ?_ (fun K hK => ?_) ?_
            rotate_left 1
            · (simp only [List.getElem?_toArray, List.getElem?_cons_succ, List.getElem?_cons_zero]; exact rfl)
            · go_simp
              (first | (go_at_call 49; (with_reducible refine (KS.out _ _ hx).mono ?_); rintro e wx ⟨rfl, hx⟩; dsimp only) | (go_at_call 50; (with_reducible refine (KU.out _ _ hx).mono ?_); rintro e wx ⟨rfl, hx⟩; dsimp only) | (go_at_call 51; (with_reducible refine (KI.out _ _ hx).mono ?_); rintro e wx ⟨rfl, hx⟩; dsimp only) | (go_at_call 51; (with_reducible refine (KJ.out _ _ hx).mono ?_); rintro e wx ⟨rfl, hx⟩; dsimp only) | (go_at_call 52; (with_reducible refine (KT.out _ _ hx).mono ?_); rintro e wx ⟨rfl, hx⟩; dsimp only) | (go_at_call 48; (with_reducible refine (KX.out _ _ hx).mono ?_); rintro e wx ⟨rfl, hx⟩; dsimp only))
              refine hK.out _ _ ?_ (fun hHeld => ?_)
              · (try dsimp only) <;> (first | exact SX.out _ hx | exact SX.out _ (hx.alloc_ _))
              clear hK K
              try simp only [Act.put, List.setIfInBounds_toArray, List.set_cons_zero, List.set_cons_succ]
              refine wpAnyH_ready (rs := [15]) (by kernel_rfl) (by simp) ?_
              refine AllReadyH.cons (o := ?_) ?_ (fun K hK => ?_) ?_
              rotate_left 1
              · (simp only [List.getElem?_toArray, List.getElem?_cons_succ, List.getElem?_cons_zero]; exact rfl)
              · go_simp
                refine hK.out _ _ ?_ (fun hHeld => ?_)
                · (try dsimp only) <;> (first | exact SX.out _ hx | exact SX.out _ (hx.alloc_ _))
                clear hK K
                try simp only [Act.put, List.setIfInBounds_toArray, List.set_cons_zero, List.set_cons_succ]
                refine wpAnyH_ready (rs := [16]) (by kernel_rfl) (by simp) ?_
                refine AllReadyH.cons (o := ?_) ?_ (fun K hK => ?_) ?_
                rotate_left 1
                · (simp only [List.getElem?_toArray, List.getElem?_cons_succ, List.getElem?_cons_zero]; exact rfl)
                · go_simp
                  (first | (go_at_call 49; (with_reducible refine (KS.out _ _ hx).mono ?_); rintro e wx ⟨rfl, hx⟩; dsimp only) | (go_at_call 50; (with_reducible refine (KU.out _ _ hx).mono ?_); rintro e wx ⟨rfl, hx⟩; dsimp only) | (go_at_call 51; (with_reducible refine (KI.out _ _ hx).mono ?_); rintro e wx ⟨rfl, hx⟩; dsimp only) | (go_at_call 51; (with_reducible refine (KJ.out _ _ hx).mono ?_); rintro e wx ⟨rfl, hx⟩; dsimp only) | (go_at_call 52; (with_reducible refine (KT.out _ _ hx).mono ?_); rintro e wx ⟨rfl, hx⟩; dsimp only) | (go_at_call 48; (with_reducible refine (KX.out _ _ hx).mono ?_); rintro e wx ⟨rfl, hx⟩; dsimp only))
                  refine hK.out _ _ ?_ (fun hHeld => ?_)
                  · (try dsimp only) <;> (first | exact SX.out _ hx | exact SX.out _ (hx.alloc_ _))
                  clear hK K
                  try simp only [Act.put, List.setIfInBounds_toArray, List.set_cons_zero, List.set_cons_succ]
                  refine wpAnyH_take (i := 17) (oi := ?_) (v := ?_) ?_ ?_ ?_ ?_ ?_ ?_ ?_ ?_
                  rotate_left 2
                  · (simp only [List.getElem?_toArray, List.getElem?_cons_succ, List.getElem?_cons_zero]; exact rfl)
                  · kernel_rfl
                  · kernel_rfl
                  · kernel_rfl
                  · exact fun _ _ _ h => h
                  · first | (refine Or.inl ⟨by rfl, ?_⟩; intro w hSw; (try dsimp only at hSw); go_simp; try with_reducible rfl) | (refine Or.inr ⟨by rfl, ?_⟩; rfl)
                  · assumption
                  try simp only [Act.put, List.setIfInBounds_toArray, List.set_cons_zero, List.set_cons_succ]
                  refine wpAnyH_done (by kernel_rfl) ?_ _
                  go_wp2_with fail
                  go_ret
                  exact ⟨rfl, St.weaken (A := [_]) hx⟩
                exact AllReadyH.nil
              exact AllReadyH.nil
            exact AllReadyH.nil
          exact AllReadyH.nil
        exact AllReadyH.nil
      exact AllReadyH.nil
    exact AllReadyH.nil
end
end

section
set_option linter.unusedVariables false
set_option linter.unusedSimpArgs false
open Go.RowKit Go.Lib

section
variable {W w : World} {I : Nat → Option Obj} {F : List (Nat × Obj)}
set_option maxRecDepth 100000 in
set_option maxHeartbeats 4000000 in
theorem rmtext (t : TB W I) (m : Man) (ok : m.Ok) (hps : m.prod.size ≤ 500000) (h : St W w I F) :
    Calls Tryd.prog 28 #[m.val] w fun e w' => e = .returned (.string ⟨(mTextL m).toArray⟩) ∧ St W w' I F := by
  have h0 := h.alloc (.cells m.cells 29)
  obtain ⟨ba, hba⟩ : ∃ b, w.heap.size = b := ⟨_, rfl⟩
  rw [hba] at h0
  have hmi : (Tryd.prog.info? 29).map (·.size) = some m.cells.size := by rw [Man.cells_size ok]; kernel_rfl
  have kR := fun (v : World) (F : List (Nat × Obj)) (hv : St W v I F) => rright13 t m ok (by omega) hv
  obtain ⟨R, hR⟩ : ∃ R, rightM m = R := ⟨_, rfl⟩
  obtain ⟨X, hX⟩ : ∃ X, mTextL m = X := ⟨_, rfl⟩
  rw [hX]
  rw [hR] at kR
  rw [show m.val = .agg m.cells from rfl] at kR ⊢
  have H0 := Lib.hid h0; have KR := Lib.hid kR; have HMI := Lib.hid hmi; have HR := Lib.hid hR; have HX := Lib.hid hX; have OK := Lib.hid ok; have TT := Lib.hid t
  clear h0 kR hmi hR hX h t
  go_enter Tryd.func28, Tryd.ntmps28
  go_wp2_with (with_reducible refine wpList_load_st rfl 29 (.tmp 1) rfl (g := ba) (off := 0) rfl H0.out (cs := m.cells) (t := 29) (fr := (0, 0)) (by simp) m.cells (fun j hj => by rw [Nat.zero_add]) _ Tryd.underlying29 rfl HMI.out ?_)
  refine (KR.out _ _ H0.out).mono ?_
  rintro e w2 ⟨rfl, h2⟩
  have H2 := Lib.hid h2
  clear h2 H0 KR
  cases R with
  | false =>
    have hX0 : X = [] := by rw [← HX.out, mTextL, HR.out]; rfl
    subst hX0
    go_wp2_with fail
    go_ret
    exact ⟨rfl, St.weaken (A := [_]) H2.out⟩
  | true =>
    obtain ⟨r1, r2, r3, r4, r5, r6, r7, r8, r9, r10⟩ := (rightM_iff m).1 HR.out
    have hXe : showOf m.prod ++ ([32] ++ (Lib.decDigits m.ver.toNat ++ ([32] ++ (Lib.decDigits m.size.toNat ++ ([32] ++ (Lib.decDigits m.chunk.toNat ++ ([32] ++ textOf m.dig))))))) = X := by
      rw [← HX.out, mTextL, if_pos HR.out]
    have l1 := showOf_len m.prod
    have l2 := decD_len 20 m.ver.toNat (by omega) (by omega)
    have l3 := decD_len 20 m.size.toNat (by omega) (by omega)
    have l4 := decD_len 20 m.chunk.toNat (by omega) (by omega)
    have l5 := textOf_len m.dig
    rw [OK.out.dig] at l5
    have kS := fun (v : World) (F : List (Nat × Obj)) (hv : St W v I F) => rshow_any TT.out m.prod (by omega) hv
    have kU := fun (v : World) (F : List (Nat × Obj)) (hv : St W v I F) => rdec_any m.ver.toNat (by omega) hv
    have kI := fun (v : World) (F : List (Nat × Obj)) (hv : St W v I F) => rdec_any m.size.toNat (by omega) hv
    have kJ := fun (v : World) (F : List (Nat × Obj)) (hv : St W v I F) => rdec_any m.chunk.toNat (by omega) hv
    have kT := fun (v : World) (F : List (Nat × Obj)) (hv : St W v I F) => rtext_any m.dig OK.out.dig hv
    rw [show ((m.ver.toNat : Nat) : Int) = m.ver by omega] at kU
    rw [show ((m.size.toNat : Nat) : Int) = m.size by omega] at kI
    rw [show ((m.chunk.toNat : Nat) : Int) = m.chunk by omega] at kJ
    have ws : IntKind.u64.wrap m.size = m.size := by rw [IntKind.wrap_u64]; omega
    have wc : IntKind.u64.wrap m.chunk = m.chunk := by rw [IntKind.wrap_u64]; omega
    have sx : ∀ v, St W v I ((ba, Obj.cells m.cells 29 (0, 0)) :: F) → v.cell? ⟨ba, 0, none⟩ = some (.string m.prod) ∧ v.cell? ⟨ba, 1, none⟩ = some (.int .u64 m.ver) ∧ v.cell? ⟨ba, 2, none⟩ = some (.int .i64 m.size) ∧ v.cell? ⟨ba, 3, none⟩ = some (.int .i64 m.chunk) ∧ v.rangeAt ba 4 (m.dig.map bval) := fun v hv => by
      obtain ⟨a0, a1, a2, a3, _⟩ := man_cells OK.out hv (b := ba) (by simp)
      refine ⟨a0, a1, a2, a3, hv.rangeAt (g := ba) (cs := m.cells) (t := 29) (fr := (0, 0)) (by simp) (fun j hj => ?_)⟩
      have hj2 : j < m.dig.length := by simpa using hj
      unfold Man.cells
      rw [List.getElem?_toArray, List.getElem?_append_left (by simp; omega), List.getElem?_append_right (by simp)]
      simp
    have hul : Tryd.prog.underlying 26 = some _ := Tryd.underlying26
    have hix : (Tryd.prog.info? 26).map (·.size) = some (m.dig.map bval).length := by rw [List.length_map, OK.out.dig]; kernel_rfl
    have hx := H2.out.drew1
    have hbc : bcells m.dig = (m.dig.map bval).toArray := rfl
    rw [hbc] at kT
    generalize showOf m.prod = x1 at *
    generalize Lib.decDigits m.ver.toNat = x2 at *
    generalize Lib.decDigits m.size.toNat = x3 at *
    generalize Lib.decDigits m.chunk.toNat = x4 at *
    generalize textOf m.dig = x5 at *
    have z1 : ¬ (9223372036854775807 < x1.length + 1) := by omega
    have z2 : ¬ (9223372036854775807 < x1.length + 1 + x2.length) := by omega
    have z3 : ¬ (9223372036854775807 < x1.length + 1 + x2.length + 1) := by omega
    have z4 : ¬ (9223372036854775807 < x1.length + 1 + x2.length + 1 + x3.length) := by omega
    have z5 : ¬ (9223372036854775807 < x1.length + 1 + x2.length + 1 + x3.length + 1) := by omega
    have z6 : ¬ (9223372036854775807 < x1.length + 1 + x2.length + 1 + x3.length + 1 + x4.length) := by omega
    have z7 : ¬ (9223372036854775807 < x1.length + 1 + x2.length + 1 + x3.length + 1 + x4.length + 1) := by omega
    have z8 : ¬ (9223372036854775807 < x1.length + 1 + x2.length + 1 + x3.length + 1 + x4.length + 1 + x5.length) := by omega
    have KS := Lib.hid kS; have KU := Lib.hid kU; have KI := Lib.hid kI; have KJ := Lib.hid kJ; have KT := Lib.hid kT; have SX := Lib.hid sx; have HUL := Lib.hid hul; have HIX := Lib.hid hix
    have HXE := Lib.hid hXe
    clear kS kU kI kJ kT sx hul hix hbc hXe l1 l2 l3 l4 l5
    go_wp2_with fail
    refine wp_region_held_drew (S := fun v => v.cell? ⟨ba, 0, none⟩ = some (.string m.prod) ∧ v.cell? ⟨ba, 1, none⟩ = some (.int .u64 m.ver) ∧ v.cell? ⟨ba, 2, none⟩ = some (.int .i64 m.size) ∧ v.cell? ⟨ba, 3, none⟩ = some (.int .i64 m.chunk) ∧ v.rangeAt ba 4 (m.dig.map bval)) (by kernel_rfl) (SX.out _ hx) (fun hHeld => ?_)
    refine wpAnyH_take (i := 0) (oi := ?_) (v := ?_) ?_ ?_ ?_ ?_ ?_ ?_ ?_ ?_
    rotate_left 2
    · (simp only [List.getElem?_toArray, List.getElem?_cons_succ, List.getElem?_cons_zero]; exact rfl)
    · kernel_rfl
    · kernel_rfl
    · kernel_rfl
    · exact fun _ _ _ h => h
    · first | (refine Or.inl ⟨by rfl, ?_⟩; intro w hSw; (try dsimp only at hSw); go_simp; try with_reducible rfl) | (refine Or.inr ⟨by rfl, ?_⟩; rfl)
    · assumption
    try simp only [Act.put, List.setIfInBounds_toArray, List.set_cons_zero, List.set_cons_succ]
    refine wpAnyH_take (i := 1) (oi := ?_) (v := ?_) ?_ ?_ ?_ ?_ ?_ ?_ ?_ ?_
    rotate_left 2
    · (simp only [List.getElem?_toArray, List.getElem?_cons_succ, List.getElem?_cons_zero]; exact rfl)
    · kernel_rfl
    · kernel_rfl
    · kernel_rfl
    · exact fun _ _ _ h => h
    · first | (first | ((refine yieldsIf_load_mid ?_ 26 (.tmp 27) ?_ ba 4 ?_ (m.dig.map bval) _ ?_ HUL.out ?_ HIX.out) <;> first | rfl | exact fun w h => h.2.2.2.2) | (refine Or.inl ⟨by rfl, ?_⟩; intro w hSw; obtain ⟨hS1, hS2, hS3, hS4, hS5⟩ := hSw; go_simp; try with_reducible rfl)) | (refine Or.inr ⟨by rfl, ?_⟩; rfl)
    · assumption
    try simp only [Act.put, List.setIfInBounds_toArray, List.set_cons_zero, List.set_cons_succ]
    refine wpAnyH_take (i := 4) (oi := ?_) (v := ?_) ?_ ?_ ?_ ?_ ?_ ?_ ?_ ?_
    rotate_left 2
    · (simp only [List.getElem?_toArray, List.getElem?_cons_succ, List.getElem?_cons_zero]; exact rfl)
    · kernel_rfl
    · kernel_rfl
    · kernel_rfl
    · exact fun _ _ _ h => h
    · first | (refine Or.inl ⟨by rfl, ?_⟩; intro w hSw; (try dsimp only at hSw); go_simp; try with_reducible rfl) | (refine Or.inr ⟨by rfl, ?_⟩; rfl)
    · assumption
    try simp only [Act.put, List.setIfInBounds_toArray, List.set_cons_zero, List.set_cons_succ]
    refine wpAnyH_take (i := 5) (oi := ?_) (v := ?_) ?_ ?_ ?_ ?_ ?_ ?_ ?_ ?_
    rotate_left 2
    · (simp only [List.getElem?_toArray, List.getElem?_cons_succ, List.getElem?_cons_zero]; exact rfl)
    · kernel_rfl
    · kernel_rfl
    · kernel_rfl
    · exact fun _ _ _ h => h
    · first | (first | ((refine yieldsIf_load_mid ?_ 26 (.tmp 27) ?_ ba 4 ?_ (m.dig.map bval) _ ?_ HUL.out ?_ HIX.out) <;> first | rfl | exact fun w h => h.2.2.2.2) | (refine Or.inl ⟨by rfl, ?_⟩; intro w hSw; obtain ⟨hS1, hS2, hS3, hS4, hS5⟩ := hSw; go_simp; try with_reducible rfl)) | (refine Or.inr ⟨by rfl, ?_⟩; rfl)
    · assumption
    try simp only [Act.put, List.setIfInBounds_toArray, List.set_cons_zero, List.set_cons_succ]
    refine wpAnyH_take (i := 9) (oi := ?_) (v := ?_) ?_ ?_ ?_ ?_ ?_ ?_ ?_ ?_
    rotate_left 2
    · (simp only [List.getElem?_toArray, List.getElem?_cons_succ, List.getElem?_cons_zero]; exact rfl)
    · kernel_rfl
    · kernel_rfl
    · kernel_rfl
    · exact fun _ _ _ h => h
    · first | (refine Or.inl ⟨by rfl, ?_⟩; intro w hSw; (try dsimp only at hSw); go_simp; try with_reducible rfl) | (refine Or.inr ⟨by rfl, ?_⟩; rfl)
    · assumption
    try simp only [Act.put, List.setIfInBounds_toArray, List.set_cons_zero, List.set_cons_succ]
    refine wpAnyH_take (i := 10) (oi := ?_) (v := ?_) ?_ ?_ ?_ ?_ ?_ ?_ ?_ ?_
    rotate_left 2
    · (simp only [List.getElem?_toArray, List.getElem?_cons_succ, List.getElem?_cons_zero]; exact rfl)
    · kernel_rfl
    · kernel_rfl
    · kernel_rfl
    · exact fun _ _ _ h => h
    · first | (first | ((refine yieldsIf_load_mid ?_ 26 (.tmp 27) ?_ ba 4 ?_ (m.dig.map bval) _ ?_ HUL.out ?_ HIX.out) <;> first | rfl | exact fun w h => h.2.2.2.2) | (refine Or.inl ⟨by rfl, ?_⟩; intro w hSw; obtain ⟨hS1, hS2, hS3, hS4, hS5⟩ := hSw; go_simp; try with_reducible rfl)) | (refine Or.inr ⟨by rfl, ?_⟩; rfl)
    · assumption
    try simp only [Act.put, List.setIfInBounds_toArray, List.set_cons_zero, List.set_cons_succ]
    refine wpAnyH_take (i := 11) (oi := ?_) (v := ?_) ?_ ?_ ?_ ?_ ?_ ?_ ?_ ?_
    rotate_left 2
    · (simp only [List.getElem?_toArray, List.getElem?_cons_succ, List.getElem?_cons_zero]; exact rfl)
    · kernel_rfl
    · kernel_rfl
    · kernel_rfl
    · exact fun _ _ _ h => h
    · first | (refine Or.inl ⟨by rfl, ?_⟩; intro w hSw; (try dsimp only at hSw); go_simp; try with_reducible rfl) | (refine Or.inr ⟨by rfl, ?_⟩; rfl)
    · assumption
    try simp only [Act.put, List.setIfInBounds_toArray, List.set_cons_zero, List.set_cons_succ]
    refine wpAnyH_take (i := 15) (oi := ?_) (v := ?_) ?_ ?_ ?_ ?_ ?_ ?_ ?_ ?_
    rotate_left 2
    · (simp only [List.getElem?_toArray, List.getElem?_cons_succ, List.getElem?_cons_zero]; exact rfl)
    · kernel_rfl
    · kernel_rfl
    · kernel_rfl
    · exact fun _ _ _ h => h
    · first | (refine Or.inl ⟨by rfl, ?_⟩; intro w hSw; (try dsimp only at hSw); go_simp; try with_reducible rfl) | (refine Or.inr ⟨by rfl, ?_⟩; rfl)
    · assumption
    try simp only [Act.put, List.setIfInBounds_toArray, List.set_cons_zero, List.set_cons_succ]
    refine wpAnyH_take (i := 16) (oi := ?_) (v := ?_) ?_ ?_ ?_ ?_ ?_ ?_ ?_ ?_
    rotate_left 2
    · (simp only [List.getElem?_toArray, List.getElem?_cons_succ, List.getElem?_cons_zero]; exact rfl)
    · kernel_rfl
    · kernel_rfl
    · kernel_rfl
    · exact fun _ _ _ h => h
    · first | (first | ((refine yieldsIf_load_mid ?_ 26 (.tmp 27) ?_ ba 4 ?_ (m.dig.map bval) _ ?_ HUL.out ?_ HIX.out) <;> first | rfl | exact fun w h => h.2.2.2.2) | (refine Or.inl ⟨by rfl, ?_⟩; intro w hSw; obtain ⟨hS1, hS2, hS3, hS4, hS5⟩ := hSw; go_simp; try with_reducible rfl)) | (refine Or.inr ⟨by rfl, ?_⟩; rfl)
    · assumption
    try simp only [Act.put, List.setIfInBounds_toArray, List.set_cons_zero, List.set_cons_succ]
    refine wpAnyH_take (i := 17) (oi := ?_) (v := ?_) ?_ ?_ ?_ ?_ ?_ ?_ ?_ ?_
    rotate_left 2
    · (simp only [List.getElem?_toArray, List.getElem?_cons_succ, List.getElem?_cons_zero]; exact rfl)
    · kernel_rfl
    · kernel_rfl
    · kernel_rfl
    · exact fun _ _ _ h => h
    · first | (refine Or.inl ⟨by rfl, ?_⟩; intro w hSw; (try dsimp only at hSw); go_simp; try with_reducible rfl) | (refine Or.inr ⟨by rfl, ?_⟩; rfl)
    · assumption
    try simp only [Act.put, List.setIfInBounds_toArray, List.set_cons_zero, List.set_cons_succ]
    refine wpAnyH_take (i := 21) (oi := ?_) (v := ?_) ?_ ?_ ?_ ?_ ?_ ?_ ?_ ?_
    rotate_left 2
    · (simp only [List.getElem?_toArray, List.getElem?_cons_succ, List.getElem?_cons_zero]; exact rfl)
    · kernel_rfl
    · kernel_rfl
    · kernel_rfl
    · exact fun _ _ _ h => h
    · first | (refine Or.inl ⟨by rfl, ?_⟩; intro w hSw; (try dsimp only at hSw); go_simp; try with_reducible rfl) | (refine Or.inr ⟨by rfl, ?_⟩; rfl)
    · assumption
    try simp only [Act.put, List.setIfInBounds_toArray, List.set_cons_zero, List.set_cons_succ]
    refine wpAnyH_take (i := 22) (oi := ?_) (v := ?_) ?_ ?_ ?_ ?_ ?_ ?_ ?_ ?_
    rotate_left 2
    · (simp only [List.getElem?_toArray, List.getElem?_cons_succ, List.getElem?_cons_zero]; exact rfl)
    · kernel_rfl
    · kernel_rfl
    · kernel_rfl
    · exact fun _ _ _ h => h
    · first | (first | ((refine yieldsIf_load_mid ?_ 26 (.tmp 27) ?_ ba 4 ?_ (m.dig.map bval) _ ?_ HUL.out ?_ HIX.out) <;> first | rfl | exact fun w h => h.2.2.2.2) | (refine Or.inl ⟨by rfl, ?_⟩; intro w hSw; obtain ⟨hS1, hS2, hS3, hS4, hS5⟩ := hSw; go_simp; try with_reducible rfl)) | (refine Or.inr ⟨by rfl, ?_⟩; rfl)
    · assumption
    try simp only [Act.put, List.setIfInBounds_toArray, List.set_cons_zero, List.set_cons_succ]
    refine wpAnyH_ready (rs := [2]) (by kernel_rfl) (by simp) ?_
    refine AllReadyH.cons (o := ?_) ?_ (fun K hK => ?_) ?_
    rotate_left 1
    · (simp only [List.getElem?_toArray, List.getElem?_cons_succ, List.getElem?_cons_zero]; exact rfl)
    · go_simp
      (first | (go_at_call 55; (with_reducible refine (KS.out _ _ hx).mono ?_); rintro e wx ⟨rfl, hx⟩; dsimp only) | (go_at_call 56; (with_reducible refine (KU.out _ _ hx).mono ?_); rintro e wx ⟨rfl, hx⟩; dsimp only) | (go_at_call 56; (with_reducible refine (KI.out _ _ hx).mono ?_); rintro e wx ⟨rfl, hx⟩; dsimp only) | (go_at_call 56; (with_reducible refine (KJ.out _ _ hx).mono ?_); rintro e wx ⟨rfl, hx⟩; dsimp only) | (go_at_call 57; (with_reducible refine (KT.out _ _ hx).mono ?_); rintro e wx ⟨rfl, hx⟩; dsimp only))
      refine hK.out _ _ ?_ (fun hHeld => ?_)
      · (try dsimp only) <;> (first | exact SX.out _ hx | exact SX.out _ (hx.alloc_ _))
      clear hK K
      try simp only [Act.put, List.setIfInBounds_toArray, List.set_cons_zero, List.set_cons_succ]
      refine wpAnyH_take (i := 3) (oi := ?_) (v := ?_) ?_ ?_ ?_ ?_ ?_ ?_ ?_ ?_
      rotate_left 2
      · (simp only [List.getElem?_toArray, List.getElem?_cons_succ, List.getElem?_cons_zero]; exact rfl)
      · kernel_rfl
      · kernel_rfl
      · kernel_rfl
      · exact fun _ _ _ h => h
      · first | (refine Or.inl ⟨by rfl, ?_⟩; intro w hSw; (try dsimp only at hSw); go_simp; try with_reducible rfl) | (refine Or.inr ⟨by rfl, ?_⟩; rfl)
      · assumption
      try simp only [Act.put, List.setIfInBounds_toArray, List.set_cons_zero, List.set_cons_succ]
      refine wpAnyH_ready (rs := [6]) (by kernel_rfl) (by simp) ?_
      refine AllReadyH.cons (o := ?_) ?_ (fun K hK => ?_) ?_
      rotate_left 1
      · (simp only [List.getElem?_toArray, List.getElem?_cons_succ, List.getElem?_cons_zero]; exact rfl)
      · go_simp
        (first | (go_at_call 55; (with_reducible refine (KS.out _ _ hx).mono ?_); rintro e wx ⟨rfl, hx⟩; dsimp only) | (go_at_call 56; (with_reducible refine (KU.out _ _ hx).mono ?_); rintro e wx ⟨rfl, hx⟩; dsimp only) | (go_at_call 56; (with_reducible refine (KI.out _ _ hx).mono ?_); rintro e wx ⟨rfl, hx⟩; dsimp only) | (go_at_call 56; (with_reducible refine (KJ.out _ _ hx).mono ?_); rintro e wx ⟨rfl, hx⟩; dsimp only) | (go_at_call 57; (with_reducible refine (KT.out _ _ hx).mono ?_); rintro e wx ⟨rfl, hx⟩; dsimp only))
        refine hK.out _ _ ?_ (fun hHeld => ?_)
        · (try dsimp only) <;> (first | exact SX.out _ hx | exact SX.out _ (hx.alloc_ _))
        clear hK K
        try simp only [Act.put, List.setIfInBounds_toArray, List.set_cons_zero, List.set_cons_succ]
        refine wpAnyH_take (i := 7) (oi := ?_) (v := ?_) ?_ ?_ ?_ ?_ ?_ ?_ ?_ ?_
        rotate_left 2
        · (simp only [List.getElem?_toArray, List.getElem?_cons_succ, List.getElem?_cons_zero]; exact rfl)
        · kernel_rfl
        · kernel_rfl
        · kernel_rfl
        · exact fun _ _ _ h => h
        · first | (refine Or.inl ⟨by rfl, ?_⟩; intro w hSw; (try dsimp only at hSw); go_simp; try with_reducible rfl) | (refine Or.inr ⟨by rfl, ?_⟩; rfl)
        · assumption
        try simp only [Act.put, List.setIfInBounds_toArray, List.set_cons_zero, List.set_cons_succ]
        refine wpAnyH_take (i := 8) (oi := ?_) (v := ?_) ?_ ?_ ?_ ?_ ?_ ?_ ?_ ?_
        rotate_left 2
        · (simp only [List.getElem?_toArray, List.getElem?_cons_succ, List.getElem?_cons_zero]; exact rfl)
        · kernel_rfl
        · kernel_rfl
        · kernel_rfl
        · exact fun _ _ _ h => h
        · first | (refine Or.inl ⟨by rfl, ?_⟩; intro w hSw; (try dsimp only at hSw); go_simp; try with_reducible rfl) | (refine Or.inr ⟨by rfl, ?_⟩; rfl)
        · assumption
        try simp only [Act.put, List.setIfInBounds_toArray, List.set_cons_zero, List.set_cons_succ]
        refine wpAnyH_ready (rs := [12]) (by kernel_rfl) (by simp) ?_
        refine AllReadyH.cons (o := ?_) ?_ (fun K hK => ?_) ?_
        rotate_left 1
        · (simp only [List.getElem?_toArray, List.getElem?_cons_succ, List.getElem?_cons_zero]; exact rfl)
        · go_simp
          (first | (go_at_call 55; (with_reducible refine (KS.out _ _ hx).mono ?_); rintro e wx ⟨rfl, hx⟩; dsimp only) | (go_at_call 56; (with_reducible refine (KU.out _ _ hx).mono ?_); rintro e wx ⟨rfl, hx⟩; dsimp only) | (go_at_call 56; (with_reducible refine (KI.out _ _ hx).mono ?_); rintro e wx ⟨rfl, hx⟩; dsimp only) | (go_at_call 56; (with_reducible refine (KJ.out _ _ hx).mono ?_); rintro e wx ⟨rfl, hx⟩; dsimp only) | (go_at_call 57; (with_reducible refine (KT.out _ _ hx).mono ?_); rintro e wx ⟨rfl, hx⟩; dsimp only))
          refine hK.out _ _ ?_ (fun hHeld => ?_)
          · (try dsimp only) <;> (first | exact SX.out _ hx | exact SX.out _ (hx.alloc_ _))
          clear hK K
          try simp only [Act.put, List.setIfInBounds_toArray, List.set_cons_zero, List.set_cons_succ]
          refine wpAnyH_take (i := 13) (oi := ?_) (v := ?_) ?_ ?_ ?_ ?_ ?_ ?_ ?_ ?_
          rotate_left 2
          · (simp only [List.getElem?_toArray, List.getElem?_cons_succ, List.getElem?_cons_zero]; exact rfl)
          · kernel_rfl
          · kernel_rfl
          · kernel_rfl
          · exact fun _ _ _ h => h
          · first | (refine Or.inl ⟨by rfl, ?_⟩; intro w hSw; (try dsimp only at hSw); go_simp; try with_reducible rfl) | (refine Or.inr ⟨by rfl, ?_⟩; rfl)
          · assumption
          try simp only [Act.put, List.setIfInBounds_toArray, List.set_cons_zero, List.set_cons_succ]
          refine wpAnyH_take (i := 14) (oi := ?_) (v := ?_) ?_ ?_ ?_ ?_ ?_ ?_ ?_ ?_
          rotate_left 2
          · (simp only [List.getElem?_toArray, List.getElem?_cons_succ, List.getElem?_cons_zero]; exact rfl)
          · kernel_rfl
          · kernel_rfl
          · kernel_rfl
          · exact fun _ _ _ h => h
          · first | (refine Or.inl ⟨by rfl, ?_⟩; intro w hSw; (try dsimp only at hSw); go_simp; try with_reducible rfl) | (refine Or.inr ⟨by rfl, ?_⟩; rfl)
          · assumption
          try simp only [Act.put, List.setIfInBounds_toArray, List.set_cons_zero, List.set_cons_succ]
          refine wpAnyH_ready (rs := [18]) (by kernel_rfl) (by simp) ?_
          refine AllReadyH.cons (o := ?_) ?_ (fun K hK => ?_) ?_
          rotate_left 1
          · (simp only [List.getElem?_toArray, List.getElem?_cons_succ, List.getElem?_cons_zero]; exact rfl)
          · go_simp
            (first | (go_at_call 55; (with_reducible refine (KS.out _ _ hx).mono ?_); rintro e wx ⟨rfl, hx⟩; dsimp only) | (go_at_call 56; (with_reducible refine (KU.out _ _ hx).mono ?_); rintro e wx ⟨rfl, hx⟩; dsimp only) | (go_at_call 56; (with_reducible refine (KI.out _ _ hx).mono ?_); rintro e wx ⟨rfl, hx⟩; dsimp only) | (go_at_call 56; (with_reducible refine (KJ.out _ _ hx).mono ?_); rintro e wx ⟨rfl, hx⟩; dsimp only) | (go_at_call 57; (with_reducible refine (KT.out _ _ hx).mono ?_); rintro e wx ⟨rfl, hx⟩; dsimp only))
            refine hK.out _ _ ?_ (fun hHeld => ?_)
            · (try dsimp only) <;> (first | exact SX.out _ hx | exact SX.out _ (hx.alloc_ _))
            clear hK K
            try simp only [Act.put, List.setIfInBounds_toArray, List.set_cons_zero, List.set_cons_succ]
            refine wpAnyH_take (i := 19) (oi := ?_) (v := ?_) ?_ ?_ ?_ ?_ ?_ ?_ ?_ ?_
            rotate_left 2
            · (simp only [List.getElem?_toArray, List.getElem?_cons_succ, List.getElem?_cons_zero]; exact rfl)
            · kernel_rfl
            · kernel_rfl
            · kernel_rfl
            · exact fun _ _ _ h => h
            · first | (refine Or.inl ⟨by rfl, ?_⟩; intro w hSw; (try dsimp only at hSw); go_simp; try with_reducible rfl) | (refine Or.inr ⟨by rfl, ?_⟩; rfl)
            · assumption
            try simp only [Act.put, List.setIfInBounds_toArray, List.set_cons_zero, List.set_cons_succ]
            refine wpAnyH_take (i := 20) (oi := ?_) (v := ?_) ?_ ?_ ?_ ?_ ?_ ?_ ?_ ?_
            rotate_left 2
            · (simp only [List.getElem?_toArray, List.getElem?_cons_succ, List.getElem?_cons_zero]; exact rfl)
            · kernel_rfl
            · kernel_rfl
            · kernel_rfl
            · exact fun _ _ _ h => h
            · first | (refine Or.inl ⟨by rfl, ?_⟩; intro w hSw; (try dsimp only at hSw); go_simp; try with_reducible rfl) | (refine Or.inr ⟨by rfl, ?_⟩; rfl)
            · assumption
            try simp only [Act.put, List.setIfInBounds_toArray, List.set_cons_zero, List.set_cons_succ]
            refine wpAnyH_ready (rs := [23]) (by kernel_rfl) (by simp) ?_
            refine AllReadyH.cons (o := ?_) ?_ (fun K hK => ?_) ?_
            rotate_left 1
            · (simp only [List.getElem?_toArray, List.getElem?_cons_succ, List.getElem?_cons_zero]; exact rfl)
            · go_simp
              (first | (go_at_call 55; (with_reducible refine (KS.out _ _ hx).mono ?_); rintro e wx ⟨rfl, hx⟩; dsimp only) | (go_at_call 56; (with_reducible refine (KU.out _ _ hx).mono ?_); rintro e wx ⟨rfl, hx⟩; dsimp only) | (go_at_call 56; (with_reducible refine (KI.out _ _ hx).mono ?_); rintro e wx ⟨rfl, hx⟩; dsimp only) | (go_at_call 56; (with_reducible refine (KJ.out _ _ hx).mono ?_); rintro e wx ⟨rfl, hx⟩; dsimp only) | (go_at_call 57; (with_reducible refine (KT.out _ _ hx).mono ?_); rintro e wx ⟨rfl, hx⟩; dsimp only))
              refine hK.out _ _ ?_ (fun hHeld => ?_)
              · (try dsimp only) <;> (first | exact SX.out _ hx | exact SX.out _ (hx.alloc_ _))
              clear hK K
              try simp only [Act.put, List.setIfInBounds_toArray, List.set_cons_zero, List.set_cons_succ]
              refine wpAnyH_take (i := 24) (oi := ?_) (v := ?_) ?_ ?_ ?_ ?_ ?_ ?_ ?_ ?_
              rotate_left 2
              · (simp only [List.getElem?_toArray, List.getElem?_cons_succ, List.getElem?_cons_zero]; exact rfl)
              · kernel_rfl
              · kernel_rfl
              · kernel_rfl
              · exact fun _ _ _ h => h
              · first | (refine Or.inl ⟨by rfl, ?_⟩; intro w hSw; (try dsimp only at hSw); go_simp; try with_reducible rfl) | (refine Or.inr ⟨by rfl, ?_⟩; rfl)
              · assumption
              try simp only [Act.put, List.setIfInBounds_toArray, List.set_cons_zero, List.set_cons_succ]
              refine wpAnyH_take (i := 25) (oi := ?_) (v := ?_) ?_ ?_ ?_ ?_ ?_ ?_ ?_ ?_
              rotate_left 2
              · (simp only [List.getElem?_toArray, List.getElem?_cons_succ, List.getElem?_cons_zero]; exact rfl)
              · kernel_rfl
              · kernel_rfl
              · kernel_rfl
              · exact fun _ _ _ h => h
              · first | (refine Or.inl ⟨by rfl, ?_⟩; intro w hSw; (try dsimp only at hSw); go_simp; try with_reducible rfl) | (refine Or.inr ⟨by rfl, ?_⟩; rfl)
              · assumption
              try simp only [Act.put, List.setIfInBounds_toArray, List.set_cons_zero, List.set_cons_succ]
              refine wpAnyH_done (by kernel_rfl) ?_ _
              go_wp2_with fail
              go_ret
              exact ⟨by rw [← HXE.out]; exact congrArg (fun s => Ending.returned (Value.string s)) (by simp only [← str_app2, ByteArray.append_assoc]), St.weaken (A := [_]) hx⟩
            exact AllReadyH.nil
          exact AllReadyH.nil
        exact AllReadyH.nil
      exact AllReadyH.nil
    exact AllReadyH.nil
end
end
end Go.Proofs.YtfbffmckmchbbaaDoor
