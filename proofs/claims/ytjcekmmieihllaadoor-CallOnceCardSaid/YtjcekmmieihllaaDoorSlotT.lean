/- slot: Text: walk. -/
import Derived.Test.YtjcekmmieihllaaDoorSlC
import Derived.Test.YtjcekmmieihllaaDoorTxC
import Derived.Test.YtjcekmmieihllaaDoorPnR
import Derived.Deep.RegionHeld3
namespace Go.Proofs.YtjcekmmieihllaaDoor
set_option linter.unusedVariables false
set_option linter.unusedSimpArgs false
open Go.RowKit Go.Lib

/-- What a slot may be, in words. -/
def wordL (n : Int) : List UInt8 := if n = 0 then [101, 109, 112, 116, 121] else if n = 1 then [100, 105, 114, 116, 121] else if n = 2 then [114, 101, 97, 100, 121] else if n = 3 then [103, 111, 111, 100] else if n = 4 then [98, 97, 100] else []
def wordsL : List (List UInt8) := [[101, 109, 112, 116, 121], [100, 105, 114, 116, 121], [114, 101, 97, 100, 121], [103, 111, 111, 100], [98, 97, 100]]
def imgL (s : Slt) : List UInt8 := [32] ++ (Lib.decDigits s.ver.toNat ++ ([32] ++ (Lib.decDigits s.sz.toNat ++ ([32] ++ textOf s.dig))))
def textS (s : Slt) : List UInt8 := if rightS s = true then (if s.st = 2 then wordL 2 ++ (imgL s ++ ([32] ++ Lib.decDigits s.tr.toNat)) else if s.st = 3 then wordL 3 ++ imgL s else wordL s.st) else []
/-- What lies in memory for slots: Go's table of powers of ten, the errors, the words. -/
structure SV (W : World) (I : Nat → Option Obj) : Prop where
  le : Le (fun b => W.heap[b]?) I
  t10 : Tab10 W
  ev : ErrV W I
  words : ∀ i z, wordsL[i]? = some z → roCell I ⟨6, i, none⟩ = some (.string ⟨z.toArray⟩)
theorem SV.more {W : World} {I J : Nat → Option Obj} (h : SV W I) (k : Le I J) : SV W J := ⟨h.le.trans k, h.t10, h.ev.more k, fun i z hz => roCell_mono k (h.words i z hz)⟩
theorem itoa_nat (n : Int) (h : 0 ≤ n) : Lib.itoa n = Lib.decDigits n.toNat := by
  unfold Lib.itoa
  rw [if_neg (by omega)]
theorem right_img (s : Slt) (h : rightS s = true) (k : s.st = 2 ∨ s.st = 3) : 1 ≤ s.ver ∧ s.ver ≤ 281474976710656 ∧ 1 ≤ s.sz ∧ s.sz ≤ 65536 ∧ 0 ≤ s.tr ∧ s.tr ≤ 7 := by
  unfold rightS imgS at h
  rcases k with k | k
  · rw [k] at h
    simp at h
    omega
  · rw [k] at h
    simp at h
    omega
theorem right_st (s : Slt) (h : rightS s = true) : s.st = 0 ∨ s.st = 1 ∨ s.st = 4 ∨ s.st = 2 ∨ s.st = 3 := by
  unfold rightS at h
  split at h
  · omega
  · split at h
    · omega
    · split at h
      · omega
      · cases h
theorem St.hashAt {W w : World} {I : Nat → Option Obj} {F : List (Nat × Obj)} {b : Nat} {s : Slt} (h : St W w I ((b, .cells s.cells 39 (0, 0)) :: F)) : w.rangeAt b 4 (s.dig.map bval) :=
  h.rangeAt (g := b) (cs := s.cells) (t := 39) (fr := (0, 0)) (by simp) (fun j hj => s.at4 j)

section
variable {W w : World} {I : Nat → Option Obj} {F : List (Nat × Obj)}
set_option maxRecDepth 100000 in
set_option maxHeartbeats 8000000 in
theorem slot_text (sv : SV W I) (s : Slt) (ok : s.Ok) (h : St W w I F) :
    Calls Tryd.prog 66 #[s.val] w fun e w' => e = .returned (.string ⟨(textS s).toArray⟩) ∧ St W w' I F := by
  have h0 := h.alloc (.cells s.cells 39)
  obtain ⟨b, hb⟩ : ∃ b, w.heap.size = b := ⟨_, rfl⟩
  rw [hb] at h0
  have kR := fun (v : World) (F : List (Nat × Obj)) (hv : St W v I F) => slot_right s ok hv
  have kF := fun (v : World) (F : List (Nat × Obj)) (hv : St W v I F) => slot_full s ok hv
  have HMI := Lib.hid (slot_info ok.dig)
  have H0 := Lib.hid h0
  clear h0 h
  unfold Slt.val at kR kF ⊢
  cases hR : rightS s with
  | false =>
    have hv : textS s = [] := by rw [textS, hR]; rfl
    rw [hR] at kR
    rw [hv]
    have KR := Lib.hid kR
    clear kR kF hR hv ok sv
    go_enter Tryd.func66, Tryd.ntmps66
    go_wp2_with (with_reducible refine wpList_load_st rfl 39 (.tmp 1) rfl (g := b) (off := 0) rfl H0.out (cs := s.cells) (t := 39) (fr := (0, 0)) (by simp) s.cells (fun j hj => by rw [Nat.zero_add]) _ Tryd.underlying39 rfl HMI.out ?_)
    refine (KR.out _ _ H0.out).mono ?_
    rintro e w2 ⟨rfl, h2⟩
    have H2 := Lib.hid h2
    clear h2 H0 KR hb
    go_wp2_with fail
    go_ret
    exact ⟨rfl, St.weaken (A := [_]) H2.out⟩
  | true =>
    rw [hR] at kR
    rcases right_st s hR with k | k | k | k | k
    · have hv : textS s = wordL 0 := by rw [textS, hR, k]; rfl
      have hF : fullS s = false := by rw [fullS, k]; rfl
      rw [hF] at kF
      rw [hv]
      have KR := Lib.hid kR; have KF := Lib.hid kF; have S := Lib.hid k; have WV := Lib.hid (sv.words 0 _ rfl)
      clear kR kF hR hv ok sv k hF
      go_enter Tryd.func66, Tryd.ntmps66
      go_wp2_with (with_reducible refine wpList_load_st rfl 39 (.tmp 1) rfl (g := b) (off := 0) rfl H0.out (cs := s.cells) (t := 39) (fr := (0, 0)) (by simp) s.cells (fun j hj => by rw [Nat.zero_add]) _ Tryd.underlying39 rfl HMI.out ?_)
      refine (KR.out _ _ H0.out).mono ?_
      rintro e w2 ⟨rfl, h2⟩
      have c0 := h2.slt.1
      rw [S.out] at c0
      have g0 := h2.ro WV.out
      have H2 := Lib.hid h2
      clear h2 H0 KR hb
      go_wp2_with (with_reducible refine wpList_load_st rfl 39 (.tmp 1) rfl (g := b) (off := 0) rfl H2.out (cs := s.cells) (t := 39) (fr := (0, 0)) (by simp) s.cells (fun j hj => by rw [Nat.zero_add]) _ Tryd.underlying39 rfl HMI.out ?_)
      refine (KF.out _ _ H2.out).mono ?_
      rintro e w3 ⟨rfl, h3⟩
      have c0' := h3.slt.1
      rw [S.out] at c0'
      have H3 := Lib.hid h3
      clear h3 H2 KF c0 g0
      go_wp2_with fail
      go_ret
      exact ⟨rfl, St.weaken (A := [_]) H3.out⟩
    · have hv : textS s = wordL 1 := by rw [textS, hR, k]; rfl
      have hF : fullS s = false := by rw [fullS, k]; rfl
      rw [hF] at kF
      rw [hv]
      have KR := Lib.hid kR; have KF := Lib.hid kF; have S := Lib.hid k; have WV := Lib.hid (sv.words 1 _ rfl)
      clear kR kF hR hv ok sv k hF
      go_enter Tryd.func66, Tryd.ntmps66
      go_wp2_with (with_reducible refine wpList_load_st rfl 39 (.tmp 1) rfl (g := b) (off := 0) rfl H0.out (cs := s.cells) (t := 39) (fr := (0, 0)) (by simp) s.cells (fun j hj => by rw [Nat.zero_add]) _ Tryd.underlying39 rfl HMI.out ?_)
      refine (KR.out _ _ H0.out).mono ?_
      rintro e w2 ⟨rfl, h2⟩
      have c0 := h2.slt.1
      rw [S.out] at c0
      have g0 := h2.ro WV.out
      have H2 := Lib.hid h2
      clear h2 H0 KR hb
      go_wp2_with (with_reducible refine wpList_load_st rfl 39 (.tmp 1) rfl (g := b) (off := 0) rfl H2.out (cs := s.cells) (t := 39) (fr := (0, 0)) (by simp) s.cells (fun j hj => by rw [Nat.zero_add]) _ Tryd.underlying39 rfl HMI.out ?_)
      refine (KF.out _ _ H2.out).mono ?_
      rintro e w3 ⟨rfl, h3⟩
      have c0' := h3.slt.1
      rw [S.out] at c0'
      have H3 := Lib.hid h3
      clear h3 H2 KF c0 g0
      go_wp2_with fail
      go_ret
      exact ⟨rfl, St.weaken (A := [_]) H3.out⟩
    · have hv : textS s = wordL 4 := by rw [textS, hR, k]; rfl
      have hF : fullS s = false := by rw [fullS, k]; rfl
      rw [hF] at kF
      rw [hv]
      have KR := Lib.hid kR; have KF := Lib.hid kF; have S := Lib.hid k; have WV := Lib.hid (sv.words 4 _ rfl)
      clear kR kF hR hv ok sv k hF
      go_enter Tryd.func66, Tryd.ntmps66
      go_wp2_with (with_reducible refine wpList_load_st rfl 39 (.tmp 1) rfl (g := b) (off := 0) rfl H0.out (cs := s.cells) (t := 39) (fr := (0, 0)) (by simp) s.cells (fun j hj => by rw [Nat.zero_add]) _ Tryd.underlying39 rfl HMI.out ?_)
      refine (KR.out _ _ H0.out).mono ?_
      rintro e w2 ⟨rfl, h2⟩
      have c0 := h2.slt.1
      rw [S.out] at c0
      have g0 := h2.ro WV.out
      have H2 := Lib.hid h2
      clear h2 H0 KR hb
      go_wp2_with (with_reducible refine wpList_load_st rfl 39 (.tmp 1) rfl (g := b) (off := 0) rfl H2.out (cs := s.cells) (t := 39) (fr := (0, 0)) (by simp) s.cells (fun j hj => by rw [Nat.zero_add]) _ Tryd.underlying39 rfl HMI.out ?_)
      refine (KF.out _ _ H2.out).mono ?_
      rintro e w3 ⟨rfl, h3⟩
      have c0' := h3.slt.1
      rw [S.out] at c0'
      have H3 := Lib.hid h3
      clear h3 H2 KF c0 g0
      go_wp2_with fail
      go_ret
      exact ⟨rfl, St.weaken (A := [_]) H3.out⟩
    · have hv : textS s = wordL 2 ++ (imgL s ++ ([32] ++ Lib.decDigits s.tr.toNat)) := by rw [textS, hR, k]; rfl
      have hF : fullS s = true := by rw [fullS, k]; rfl
      obtain ⟨r1, r2, r3, r4, r5, r6⟩ := right_img s hR (.inl k)
      have l2 := decD_len 20 s.ver.toNat (by omega) (by omega)
      have l3 := decD_len 20 s.sz.toNat (by omega) (by omega)
      have l4 := decD_len 20 s.tr.toNat (by omega) (by omega)
      have l5 := textOf_len s.dig
      rw [ok.dig] at l5
      have kT := fun (v : World) (F : List (Nat × Obj)) (hv : St W v I F) => text_any s.dig ok.dig hv
      rw [show bcells s.dig = (s.dig.map bval).toArray from rfl] at kT
      have sx : ∀ v, St W v I ((b, .cells s.cells 39 (0, 0)) :: F) → v.cell? ⟨b, 2, none⟩ = some (.int .u64 s.ver) ∧ v.cell? ⟨b, 3, none⟩ = some (.int .i64 s.sz) ∧ v.rangeAt b 4 (s.dig.map bval) := fun v hv => ⟨hv.slt.2.2.1, hv.slt.2.2.2, hv.hashAt⟩
      have hul : Tryd.prog.underlying 37 = some _ := Tryd.underlying37
      have hix : (Tryd.prog.info? 37).map (·.size) = some (s.dig.map bval).length := by rw [List.length_map, ok.dig]; kernel_rfl
      have kU := fun (v : World) (F : List (Nat × Obj)) (hv : St W v I F) => fmtU sv.t10 sv.le s.ver.toNat (by omega) hv
      have kI := fun (v : World) (F : List (Nat × Obj)) (hv : St W v I F) => itoa_any sv.t10 sv.le s.sz (by omega) (by omega) hv
      have kJ := fun (v : World) (F : List (Nat × Obj)) (hv : St W v I F) => itoa_any sv.t10 sv.le s.tr (by omega) (by omega) hv
      rw [show ((s.ver.toNat : Nat) : Int) = s.ver by omega] at kU
      rw [itoa_nat _ (by omega)] at kI kJ

      rw [hF] at kF
      rw [hv]
      unfold imgL
      rw [show wordL 2 = [114, 101, 97, 100, 121] from rfl]
      generalize Lib.decDigits s.ver.toNat = x2 at *
      generalize Lib.decDigits s.sz.toNat = x3 at *
      generalize Lib.decDigits s.tr.toNat = x4 at *
      generalize textOf s.dig = x5 at *
      have l6 : x5.length ≤ 64 := by omega
      clear l5
      have KR := Lib.hid kR; have KF := Lib.hid kF; have S := Lib.hid k; have WV := Lib.hid (sv.words 2 _ rfl)
      have KU := Lib.hid kU; have KI := Lib.hid kI; have KJ := Lib.hid kJ; have KT := Lib.hid kT; have SX := Lib.hid sx; have HUL := Lib.hid hul; have HIX := Lib.hid hix
      clear kR kF hR hv ok sv k hF kU kI kJ kT sx hul hix
      go_enter Tryd.func66, Tryd.ntmps66
      go_wp2_with (with_reducible refine wpList_load_st rfl 39 (.tmp 1) rfl (g := b) (off := 0) rfl H0.out (cs := s.cells) (t := 39) (fr := (0, 0)) (by simp) s.cells (fun j hj => by rw [Nat.zero_add]) _ Tryd.underlying39 rfl HMI.out ?_)
      refine (KR.out _ _ H0.out).mono ?_
      rintro e w2 ⟨rfl, h2⟩
      have c0 := h2.slt.1
      rw [S.out] at c0
      have g0 := h2.ro WV.out
      have H2 := Lib.hid h2
      clear h2 H0 KR hb
      go_wp2_with (with_reducible refine wpList_load_st rfl 39 (.tmp 1) rfl (g := b) (off := 0) rfl H2.out (cs := s.cells) (t := 39) (fr := (0, 0)) (by simp) s.cells (fun j hj => by rw [Nat.zero_add]) _ Tryd.underlying39 rfl HMI.out ?_)
      refine (KF.out _ _ H2.out).mono ?_
      rintro e w3 ⟨rfl, h3⟩
      have hx := h3.drew1
      clear h3 H2 KF c0 g0
      have z1 : ¬ (9223372036854775807 < 1 + x2.length) := by omega
      have z2 : ¬ (9223372036854775807 < 1 + x2.length + 1) := by omega
      have z3 : ¬ (9223372036854775807 < 1 + x2.length + 1 + x3.length) := by omega
      have z4 : ¬ (9223372036854775807 < 1 + x2.length + 1 + x3.length + 1) := by omega
      have z5 : ¬ (9223372036854775807 < 1 + x2.length + 1 + x3.length + 1 + x5.length) := by omega
      have z6 : ¬ (9223372036854775807 < 5 + (1 + x2.length + 1 + x3.length + 1 + x5.length)) := by omega
      have z7 : ¬ (9223372036854775807 < 1 + x4.length) := by omega
      have z8 : ¬ (9223372036854775807 < 5 + (1 + x2.length + 1 + x3.length + 1 + x5.length) + (1 + x4.length)) := by omega
      go_wp2_with fail
      refine wp_region_held_drew (S := fun v => v.cell? ⟨b, 2, none⟩ = some (.int .u64 s.ver) ∧ v.cell? ⟨b, 3, none⟩ = some (.int .i64 s.sz) ∧ v.rangeAt b 4 (s.dig.map bval)) (by kernel_rfl) (SX.out _ hx) (fun hHeld => ?_)
      refine wpAnyH_take (i := 0) (oi := ?_) (v := ?_) ?_ ?_ ?_ ?_ ?_ ?_ ?_ ?_
      rotate_left 2
      · (simp only [List.getElem?_toArray, List.getElem?_cons_succ, List.getElem?_cons_zero]; exact rfl)
      · kernel_rfl
      · kernel_rfl
      · kernel_rfl
      · exact fun _ _ _ h => h
      · first | (refine Or.inl ⟨by rfl, ?_⟩; intro w hSw; (try dsimp only at hSw); go_simp; try with_reducible rfl) | (refine Or.inr ⟨by rfl, ?_⟩; rfl)
      · assumption
      try simp only [Act.put, List.setIfInBounds_toArray, List.set_cons_zero, List.set_cons_succ]
      refine wpAnyH_take (i := 1) (oi := ?_) (v := ?_) ?_ ?_ ?_ ?_ ?_ ?_ ?_ ?_
      rotate_left 2
      · (simp only [List.getElem?_toArray, List.getElem?_cons_succ, List.getElem?_cons_zero]; exact rfl)
      · kernel_rfl
      · kernel_rfl
      · kernel_rfl
      · exact fun _ _ _ h => h
      · first | (refine Or.inl ⟨by rfl, ?_⟩; intro w hSw; (try dsimp only at hSw); go_simp; try with_reducible rfl) | (refine Or.inr ⟨by rfl, ?_⟩; rfl)
      · assumption
      try simp only [Act.put, List.setIfInBounds_toArray, List.set_cons_zero, List.set_cons_succ]
      refine wpAnyH_take (i := 2) (oi := ?_) (v := ?_) ?_ ?_ ?_ ?_ ?_ ?_ ?_ ?_
      rotate_left 2
      · (simp only [List.getElem?_toArray, List.getElem?_cons_succ, List.getElem?_cons_zero]; exact rfl)
      · kernel_rfl
      · kernel_rfl
      · kernel_rfl
      · exact fun _ _ _ h => h
      · first | (first | ((refine yieldsIf_load_mid ?_ 37 (.tmp 24) ?_ b 4 ?_ (s.dig.map bval) _ ?_ HUL.out ?_ HIX.out) <;> first | rfl | exact fun w h => h.2.2) | (refine Or.inl ⟨by rfl, ?_⟩; intro w hSw; obtain ⟨hS1, hS2, hS3⟩ := hSw; go_simp; try with_reducible rfl)) | (refine Or.inr ⟨by rfl, ?_⟩; rfl)
      · assumption
      try simp only [Act.put, List.setIfInBounds_toArray, List.set_cons_zero, List.set_cons_succ]
      refine wpAnyH_take (i := 6) (oi := ?_) (v := ?_) ?_ ?_ ?_ ?_ ?_ ?_ ?_ ?_
      rotate_left 2
      · (simp only [List.getElem?_toArray, List.getElem?_cons_succ, List.getElem?_cons_zero]; exact rfl)
      · kernel_rfl
      · kernel_rfl
      · kernel_rfl
      · exact fun _ _ _ h => h
      · first | (refine Or.inl ⟨by rfl, ?_⟩; intro w hSw; (try dsimp only at hSw); go_simp; try with_reducible rfl) | (refine Or.inr ⟨by rfl, ?_⟩; rfl)
      · assumption
      try simp only [Act.put, List.setIfInBounds_toArray, List.set_cons_zero, List.set_cons_succ]
      refine wpAnyH_take (i := 7) (oi := ?_) (v := ?_) ?_ ?_ ?_ ?_ ?_ ?_ ?_ ?_
      rotate_left 2
      · (simp only [List.getElem?_toArray, List.getElem?_cons_succ, List.getElem?_cons_zero]; exact rfl)
      · kernel_rfl
      · kernel_rfl
      · kernel_rfl
      · exact fun _ _ _ h => h
      · first | (first | ((refine yieldsIf_load_mid ?_ 37 (.tmp 24) ?_ b 4 ?_ (s.dig.map bval) _ ?_ HUL.out ?_ HIX.out) <;> first | rfl | exact fun w h => h.2.2) | (refine Or.inl ⟨by rfl, ?_⟩; intro w hSw; obtain ⟨hS1, hS2, hS3⟩ := hSw; go_simp; try with_reducible rfl)) | (refine Or.inr ⟨by rfl, ?_⟩; rfl)
      · assumption
      try simp only [Act.put, List.setIfInBounds_toArray, List.set_cons_zero, List.set_cons_succ]
      refine wpAnyH_take (i := 11) (oi := ?_) (v := ?_) ?_ ?_ ?_ ?_ ?_ ?_ ?_ ?_
      rotate_left 2
      · (simp only [List.getElem?_toArray, List.getElem?_cons_succ, List.getElem?_cons_zero]; exact rfl)
      · kernel_rfl
      · kernel_rfl
      · kernel_rfl
      · exact fun _ _ _ h => h
      · first | (refine Or.inl ⟨by rfl, ?_⟩; intro w hSw; (try dsimp only at hSw); go_simp; try with_reducible rfl) | (refine Or.inr ⟨by rfl, ?_⟩; rfl)
      · assumption
      try simp only [Act.put, List.setIfInBounds_toArray, List.set_cons_zero, List.set_cons_succ]
      refine wpAnyH_take (i := 12) (oi := ?_) (v := ?_) ?_ ?_ ?_ ?_ ?_ ?_ ?_ ?_
      rotate_left 2
      · (simp only [List.getElem?_toArray, List.getElem?_cons_succ, List.getElem?_cons_zero]; exact rfl)
      · kernel_rfl
      · kernel_rfl
      · kernel_rfl
      · exact fun _ _ _ h => h
      · first | (first | ((refine yieldsIf_load_mid ?_ 37 (.tmp 24) ?_ b 4 ?_ (s.dig.map bval) _ ?_ HUL.out ?_ HIX.out) <;> first | rfl | exact fun w h => h.2.2) | (refine Or.inl ⟨by rfl, ?_⟩; intro w hSw; obtain ⟨hS1, hS2, hS3⟩ := hSw; go_simp; try with_reducible rfl)) | (refine Or.inr ⟨by rfl, ?_⟩; rfl)
      · assumption
      try simp only [Act.put, List.setIfInBounds_toArray, List.set_cons_zero, List.set_cons_succ]
      refine wpAnyH_ready (rs := [3]) (by kernel_rfl) (by simp) ?_
      refine AllReadyH.cons (o := ?_) ?_ (fun K hK => ?_) ?_
      rotate_left 1
      · (simp only [List.getElem?_toArray, List.getElem?_cons_succ, List.getElem?_cons_zero]; exact rfl)
      · go_simp
        (first | (go_at_call 67; (with_reducible refine (KU.out _ _ hx).mono ?_); rintro e wx ⟨rfl, hx⟩; dsimp only) | (go_at_call 34; (with_reducible refine (KI.out _ _ hx).mono ?_); rintro e wx ⟨rfl, hx⟩; dsimp only) | (go_at_call 83; (with_reducible refine (KT.out _ _ hx).mono ?_); rintro e wx ⟨rfl, hx⟩; dsimp only))
        refine hK.out _ _ ?_ (fun hHeld => ?_)
        · (try dsimp only) <;> (first | exact SX.out _ hx | exact SX.out _ (hx.alloc_ _))
        clear hK K
        try simp only [Act.put, List.setIfInBounds_toArray, List.set_cons_zero, List.set_cons_succ]
        refine wpAnyH_take (i := 4) (oi := ?_) (v := ?_) ?_ ?_ ?_ ?_ ?_ ?_ ?_ ?_
        rotate_left 2
        · (simp only [List.getElem?_toArray, List.getElem?_cons_succ, List.getElem?_cons_zero]; exact rfl)
        · kernel_rfl
        · kernel_rfl
        · kernel_rfl
        · exact fun _ _ _ h => h
        · first | (refine Or.inl ⟨by rfl, ?_⟩; intro w hSw; (try dsimp only at hSw); go_simp; try with_reducible rfl) | (refine Or.inr ⟨by rfl, ?_⟩; rfl)
        · assumption
        try simp only [Act.put, List.setIfInBounds_toArray, List.set_cons_zero, List.set_cons_succ]
        refine wpAnyH_take (i := 5) (oi := ?_) (v := ?_) ?_ ?_ ?_ ?_ ?_ ?_ ?_ ?_
        rotate_left 2
        · (simp only [List.getElem?_toArray, List.getElem?_cons_succ, List.getElem?_cons_zero]; exact rfl)
        · kernel_rfl
        · kernel_rfl
        · kernel_rfl
        · exact fun _ _ _ h => h
        · first | (refine Or.inl ⟨by rfl, ?_⟩; intro w hSw; (try dsimp only at hSw); go_simp; try with_reducible rfl) | (refine Or.inr ⟨by rfl, ?_⟩; rfl)
        · assumption
        try simp only [Act.put, List.setIfInBounds_toArray, List.set_cons_zero, List.set_cons_succ]
        refine wpAnyH_ready (rs := [8]) (by kernel_rfl) (by simp) ?_
        refine AllReadyH.cons (o := ?_) ?_ (fun K hK => ?_) ?_
        rotate_left 1
        · (simp only [List.getElem?_toArray, List.getElem?_cons_succ, List.getElem?_cons_zero]; exact rfl)
        · go_simp
          (first | (go_at_call 67; (with_reducible refine (KU.out _ _ hx).mono ?_); rintro e wx ⟨rfl, hx⟩; dsimp only) | (go_at_call 34; (with_reducible refine (KI.out _ _ hx).mono ?_); rintro e wx ⟨rfl, hx⟩; dsimp only) | (go_at_call 83; (with_reducible refine (KT.out _ _ hx).mono ?_); rintro e wx ⟨rfl, hx⟩; dsimp only))
          refine hK.out _ _ ?_ (fun hHeld => ?_)
          · (try dsimp only) <;> (first | exact SX.out _ hx | exact SX.out _ (hx.alloc_ _))
          clear hK K
          try simp only [Act.put, List.setIfInBounds_toArray, List.set_cons_zero, List.set_cons_succ]
          refine wpAnyH_take (i := 9) (oi := ?_) (v := ?_) ?_ ?_ ?_ ?_ ?_ ?_ ?_ ?_
          rotate_left 2
          · (simp only [List.getElem?_toArray, List.getElem?_cons_succ, List.getElem?_cons_zero]; exact rfl)
          · kernel_rfl
          · kernel_rfl
          · kernel_rfl
          · exact fun _ _ _ h => h
          · first | (refine Or.inl ⟨by rfl, ?_⟩; intro w hSw; (try dsimp only at hSw); go_simp; try with_reducible rfl) | (refine Or.inr ⟨by rfl, ?_⟩; rfl)
          · assumption
          try simp only [Act.put, List.setIfInBounds_toArray, List.set_cons_zero, List.set_cons_succ]
          refine wpAnyH_take (i := 10) (oi := ?_) (v := ?_) ?_ ?_ ?_ ?_ ?_ ?_ ?_ ?_
          rotate_left 2
          · (simp only [List.getElem?_toArray, List.getElem?_cons_succ, List.getElem?_cons_zero]; exact rfl)
          · kernel_rfl
          · kernel_rfl
          · kernel_rfl
          · exact fun _ _ _ h => h
          · first | (refine Or.inl ⟨by rfl, ?_⟩; intro w hSw; (try dsimp only at hSw); go_simp; try with_reducible rfl) | (refine Or.inr ⟨by rfl, ?_⟩; rfl)
          · assumption
          try simp only [Act.put, List.setIfInBounds_toArray, List.set_cons_zero, List.set_cons_succ]
          refine wpAnyH_ready (rs := [13]) (by kernel_rfl) (by simp) ?_
          refine AllReadyH.cons (o := ?_) ?_ (fun K hK => ?_) ?_
          rotate_left 1
          · (simp only [List.getElem?_toArray, List.getElem?_cons_succ, List.getElem?_cons_zero]; exact rfl)
          · go_simp
            (first | (go_at_call 67; (with_reducible refine (KU.out _ _ hx).mono ?_); rintro e wx ⟨rfl, hx⟩; dsimp only) | (go_at_call 34; (with_reducible refine (KI.out _ _ hx).mono ?_); rintro e wx ⟨rfl, hx⟩; dsimp only) | (go_at_call 83; (with_reducible refine (KT.out _ _ hx).mono ?_); rintro e wx ⟨rfl, hx⟩; dsimp only))
            refine hK.out _ _ ?_ (fun hHeld => ?_)
            · (try dsimp only) <;> (first | exact SX.out _ hx | exact SX.out _ (hx.alloc_ _))
            clear hK K
            try simp only [Act.put, List.setIfInBounds_toArray, List.set_cons_zero, List.set_cons_succ]
            refine wpAnyH_take (i := 14) (oi := ?_) (v := ?_) ?_ ?_ ?_ ?_ ?_ ?_ ?_ ?_
            rotate_left 2
            · (simp only [List.getElem?_toArray, List.getElem?_cons_succ, List.getElem?_cons_zero]; exact rfl)
            · kernel_rfl
            · kernel_rfl
            · kernel_rfl
            · exact fun _ _ _ h => h
            · first | (refine Or.inl ⟨by rfl, ?_⟩; intro w hSw; (try dsimp only at hSw); go_simp; try with_reducible rfl) | (refine Or.inr ⟨by rfl, ?_⟩; rfl)
            · assumption
            try simp only [Act.put, List.setIfInBounds_toArray, List.set_cons_zero, List.set_cons_succ]
            refine wpAnyH_take (i := 15) (oi := ?_) (v := ?_) ?_ ?_ ?_ ?_ ?_ ?_ ?_ ?_
            rotate_left 2
            · (simp only [List.getElem?_toArray, List.getElem?_cons_succ, List.getElem?_cons_zero]; exact rfl)
            · kernel_rfl
            · kernel_rfl
            · kernel_rfl
            · exact fun _ _ _ h => h
            · first | (refine Or.inl ⟨by rfl, ?_⟩; intro w hSw; (try dsimp only at hSw); go_simp; try with_reducible rfl) | (refine Or.inr ⟨by rfl, ?_⟩; rfl)
            · assumption
            try simp only [Act.put, List.setIfInBounds_toArray, List.set_cons_zero, List.set_cons_succ]
            refine wpAnyH_take (i := 16) (oi := ?_) (v := ?_) ?_ ?_ ?_ ?_ ?_ ?_ ?_ ?_
            rotate_left 2
            · (simp only [List.getElem?_toArray, List.getElem?_cons_succ, List.getElem?_cons_zero]; exact rfl)
            · kernel_rfl
            · kernel_rfl
            · kernel_rfl
            · exact fun _ _ _ h => h
            · first | (refine Or.inl ⟨by rfl, ?_⟩; intro w hSw; (try dsimp only at hSw); go_simp; try with_reducible rfl) | (refine Or.inr ⟨by rfl, ?_⟩; rfl)
            · assumption
            try simp only [Act.put, List.setIfInBounds_toArray, List.set_cons_zero, List.set_cons_succ]
            refine wpAnyH_done (by kernel_rfl) ?_ _
            have c0 := hx.slt.1
            rw [S.out] at c0
            have c1 := hx.slt.2.1
            have HX := Lib.hid hx
            clear hx
            go_wp2_with fail
            refine (KJ.out _ _ HX.out).mono ?_
            rintro e w5 ⟨rfl, h5⟩
            have H5 := Lib.hid h5
            clear h5 HX
            go_wp2_with fail
            go_ret
            exact ⟨congrArg (fun s => Ending.returned (Value.string s)) (by apply ByteArray.ext; apply Array.toList_inj.1; simp), St.weaken (A := [_]) H5.out⟩
          exact AllReadyH.nil
        exact AllReadyH.nil
      exact AllReadyH.nil
    · have hv : textS s = wordL 3 ++ imgL s := by rw [textS, hR, k]; rfl
      have hF : fullS s = true := by rw [fullS, k]; rfl
      obtain ⟨r1, r2, r3, r4, r5, r6⟩ := right_img s hR (.inr k)
      have l2 := decD_len 20 s.ver.toNat (by omega) (by omega)
      have l3 := decD_len 20 s.sz.toNat (by omega) (by omega)
      have l4 := decD_len 20 s.tr.toNat (by omega) (by omega)
      have l5 := textOf_len s.dig
      rw [ok.dig] at l5
      have kT := fun (v : World) (F : List (Nat × Obj)) (hv : St W v I F) => text_any s.dig ok.dig hv
      rw [show bcells s.dig = (s.dig.map bval).toArray from rfl] at kT
      have sx : ∀ v, St W v I ((b, .cells s.cells 39 (0, 0)) :: F) → v.cell? ⟨b, 2, none⟩ = some (.int .u64 s.ver) ∧ v.cell? ⟨b, 3, none⟩ = some (.int .i64 s.sz) ∧ v.rangeAt b 4 (s.dig.map bval) := fun v hv => ⟨hv.slt.2.2.1, hv.slt.2.2.2, hv.hashAt⟩
      have hul : Tryd.prog.underlying 37 = some _ := Tryd.underlying37
      have hix : (Tryd.prog.info? 37).map (·.size) = some (s.dig.map bval).length := by rw [List.length_map, ok.dig]; kernel_rfl
      have kU := fun (v : World) (F : List (Nat × Obj)) (hv : St W v I F) => fmtU sv.t10 sv.le s.ver.toNat (by omega) hv
      have kI := fun (v : World) (F : List (Nat × Obj)) (hv : St W v I F) => itoa_any sv.t10 sv.le s.sz (by omega) (by omega) hv
      have kJ := fun (v : World) (F : List (Nat × Obj)) (hv : St W v I F) => itoa_any sv.t10 sv.le s.tr (by omega) (by omega) hv
      rw [show ((s.ver.toNat : Nat) : Int) = s.ver by omega] at kU
      rw [itoa_nat _ (by omega)] at kI kJ

      rw [hF] at kF
      rw [hv]
      unfold imgL
      rw [show wordL 3 = [103, 111, 111, 100] from rfl]
      generalize Lib.decDigits s.ver.toNat = x2 at *
      generalize Lib.decDigits s.sz.toNat = x3 at *
      generalize Lib.decDigits s.tr.toNat = x4 at *
      generalize textOf s.dig = x5 at *
      have l6 : x5.length ≤ 64 := by omega
      clear l5
      have KR := Lib.hid kR; have KF := Lib.hid kF; have S := Lib.hid k; have WV := Lib.hid (sv.words 3 _ rfl)
      have KU := Lib.hid kU; have KI := Lib.hid kI; have KJ := Lib.hid kJ; have KT := Lib.hid kT; have SX := Lib.hid sx; have HUL := Lib.hid hul; have HIX := Lib.hid hix
      clear kR kF hR hv ok sv k hF kU kI kJ kT sx hul hix
      go_enter Tryd.func66, Tryd.ntmps66
      go_wp2_with (with_reducible refine wpList_load_st rfl 39 (.tmp 1) rfl (g := b) (off := 0) rfl H0.out (cs := s.cells) (t := 39) (fr := (0, 0)) (by simp) s.cells (fun j hj => by rw [Nat.zero_add]) _ Tryd.underlying39 rfl HMI.out ?_)
      refine (KR.out _ _ H0.out).mono ?_
      rintro e w2 ⟨rfl, h2⟩
      have c0 := h2.slt.1
      rw [S.out] at c0
      have g0 := h2.ro WV.out
      have H2 := Lib.hid h2
      clear h2 H0 KR hb
      go_wp2_with (with_reducible refine wpList_load_st rfl 39 (.tmp 1) rfl (g := b) (off := 0) rfl H2.out (cs := s.cells) (t := 39) (fr := (0, 0)) (by simp) s.cells (fun j hj => by rw [Nat.zero_add]) _ Tryd.underlying39 rfl HMI.out ?_)
      refine (KF.out _ _ H2.out).mono ?_
      rintro e w3 ⟨rfl, h3⟩
      have hx := h3.drew1
      clear h3 H2 KF c0 g0
      have z1 : ¬ (9223372036854775807 < 1 + x2.length) := by omega
      have z2 : ¬ (9223372036854775807 < 1 + x2.length + 1) := by omega
      have z3 : ¬ (9223372036854775807 < 1 + x2.length + 1 + x3.length) := by omega
      have z4 : ¬ (9223372036854775807 < 1 + x2.length + 1 + x3.length + 1) := by omega
      have z5 : ¬ (9223372036854775807 < 1 + x2.length + 1 + x3.length + 1 + x5.length) := by omega
      have z6 : ¬ (9223372036854775807 < 4 + (1 + x2.length + 1 + x3.length + 1 + x5.length)) := by omega
      have z7 : ¬ (9223372036854775807 < 1 + x4.length) := by omega
      have z8 : ¬ (9223372036854775807 < 4 + (1 + x2.length + 1 + x3.length + 1 + x5.length) + (1 + x4.length)) := by omega
      go_wp2_with fail
      refine wp_region_held_drew (S := fun v => v.cell? ⟨b, 2, none⟩ = some (.int .u64 s.ver) ∧ v.cell? ⟨b, 3, none⟩ = some (.int .i64 s.sz) ∧ v.rangeAt b 4 (s.dig.map bval)) (by kernel_rfl) (SX.out _ hx) (fun hHeld => ?_)
      refine wpAnyH_take (i := 0) (oi := ?_) (v := ?_) ?_ ?_ ?_ ?_ ?_ ?_ ?_ ?_
      rotate_left 2
      · (simp only [List.getElem?_toArray, List.getElem?_cons_succ, List.getElem?_cons_zero]; exact rfl)
      · kernel_rfl
      · kernel_rfl
      · kernel_rfl
      · exact fun _ _ _ h => h
      · first | (refine Or.inl ⟨by rfl, ?_⟩; intro w hSw; (try dsimp only at hSw); go_simp; try with_reducible rfl) | (refine Or.inr ⟨by rfl, ?_⟩; rfl)
      · assumption
      try simp only [Act.put, List.setIfInBounds_toArray, List.set_cons_zero, List.set_cons_succ]
      refine wpAnyH_take (i := 1) (oi := ?_) (v := ?_) ?_ ?_ ?_ ?_ ?_ ?_ ?_ ?_
      rotate_left 2
      · (simp only [List.getElem?_toArray, List.getElem?_cons_succ, List.getElem?_cons_zero]; exact rfl)
      · kernel_rfl
      · kernel_rfl
      · kernel_rfl
      · exact fun _ _ _ h => h
      · first | (refine Or.inl ⟨by rfl, ?_⟩; intro w hSw; (try dsimp only at hSw); go_simp; try with_reducible rfl) | (refine Or.inr ⟨by rfl, ?_⟩; rfl)
      · assumption
      try simp only [Act.put, List.setIfInBounds_toArray, List.set_cons_zero, List.set_cons_succ]
      refine wpAnyH_take (i := 2) (oi := ?_) (v := ?_) ?_ ?_ ?_ ?_ ?_ ?_ ?_ ?_
      rotate_left 2
      · (simp only [List.getElem?_toArray, List.getElem?_cons_succ, List.getElem?_cons_zero]; exact rfl)
      · kernel_rfl
      · kernel_rfl
      · kernel_rfl
      · exact fun _ _ _ h => h
      · first | (first | ((refine yieldsIf_load_mid ?_ 37 (.tmp 24) ?_ b 4 ?_ (s.dig.map bval) _ ?_ HUL.out ?_ HIX.out) <;> first | rfl | exact fun w h => h.2.2) | (refine Or.inl ⟨by rfl, ?_⟩; intro w hSw; obtain ⟨hS1, hS2, hS3⟩ := hSw; go_simp; try with_reducible rfl)) | (refine Or.inr ⟨by rfl, ?_⟩; rfl)
      · assumption
      try simp only [Act.put, List.setIfInBounds_toArray, List.set_cons_zero, List.set_cons_succ]
      refine wpAnyH_take (i := 6) (oi := ?_) (v := ?_) ?_ ?_ ?_ ?_ ?_ ?_ ?_ ?_
      rotate_left 2
      · (simp only [List.getElem?_toArray, List.getElem?_cons_succ, List.getElem?_cons_zero]; exact rfl)
      · kernel_rfl
      · kernel_rfl
      · kernel_rfl
      · exact fun _ _ _ h => h
      · first | (refine Or.inl ⟨by rfl, ?_⟩; intro w hSw; (try dsimp only at hSw); go_simp; try with_reducible rfl) | (refine Or.inr ⟨by rfl, ?_⟩; rfl)
      · assumption
      try simp only [Act.put, List.setIfInBounds_toArray, List.set_cons_zero, List.set_cons_succ]
      refine wpAnyH_take (i := 7) (oi := ?_) (v := ?_) ?_ ?_ ?_ ?_ ?_ ?_ ?_ ?_
      rotate_left 2
      · (simp only [List.getElem?_toArray, List.getElem?_cons_succ, List.getElem?_cons_zero]; exact rfl)
      · kernel_rfl
      · kernel_rfl
      · kernel_rfl
      · exact fun _ _ _ h => h
      · first | (first | ((refine yieldsIf_load_mid ?_ 37 (.tmp 24) ?_ b 4 ?_ (s.dig.map bval) _ ?_ HUL.out ?_ HIX.out) <;> first | rfl | exact fun w h => h.2.2) | (refine Or.inl ⟨by rfl, ?_⟩; intro w hSw; obtain ⟨hS1, hS2, hS3⟩ := hSw; go_simp; try with_reducible rfl)) | (refine Or.inr ⟨by rfl, ?_⟩; rfl)
      · assumption
      try simp only [Act.put, List.setIfInBounds_toArray, List.set_cons_zero, List.set_cons_succ]
      refine wpAnyH_take (i := 11) (oi := ?_) (v := ?_) ?_ ?_ ?_ ?_ ?_ ?_ ?_ ?_
      rotate_left 2
      · (simp only [List.getElem?_toArray, List.getElem?_cons_succ, List.getElem?_cons_zero]; exact rfl)
      · kernel_rfl
      · kernel_rfl
      · kernel_rfl
      · exact fun _ _ _ h => h
      · first | (refine Or.inl ⟨by rfl, ?_⟩; intro w hSw; (try dsimp only at hSw); go_simp; try with_reducible rfl) | (refine Or.inr ⟨by rfl, ?_⟩; rfl)
      · assumption
      try simp only [Act.put, List.setIfInBounds_toArray, List.set_cons_zero, List.set_cons_succ]
      refine wpAnyH_take (i := 12) (oi := ?_) (v := ?_) ?_ ?_ ?_ ?_ ?_ ?_ ?_ ?_
      rotate_left 2
      · (simp only [List.getElem?_toArray, List.getElem?_cons_succ, List.getElem?_cons_zero]; exact rfl)
      · kernel_rfl
      · kernel_rfl
      · kernel_rfl
      · exact fun _ _ _ h => h
      · first | (first | ((refine yieldsIf_load_mid ?_ 37 (.tmp 24) ?_ b 4 ?_ (s.dig.map bval) _ ?_ HUL.out ?_ HIX.out) <;> first | rfl | exact fun w h => h.2.2) | (refine Or.inl ⟨by rfl, ?_⟩; intro w hSw; obtain ⟨hS1, hS2, hS3⟩ := hSw; go_simp; try with_reducible rfl)) | (refine Or.inr ⟨by rfl, ?_⟩; rfl)
      · assumption
      try simp only [Act.put, List.setIfInBounds_toArray, List.set_cons_zero, List.set_cons_succ]
      refine wpAnyH_ready (rs := [3]) (by kernel_rfl) (by simp) ?_
      refine AllReadyH.cons (o := ?_) ?_ (fun K hK => ?_) ?_
      rotate_left 1
      · (simp only [List.getElem?_toArray, List.getElem?_cons_succ, List.getElem?_cons_zero]; exact rfl)
      · go_simp
        (first | (go_at_call 67; (with_reducible refine (KU.out _ _ hx).mono ?_); rintro e wx ⟨rfl, hx⟩; dsimp only) | (go_at_call 34; (with_reducible refine (KI.out _ _ hx).mono ?_); rintro e wx ⟨rfl, hx⟩; dsimp only) | (go_at_call 83; (with_reducible refine (KT.out _ _ hx).mono ?_); rintro e wx ⟨rfl, hx⟩; dsimp only))
        refine hK.out _ _ ?_ (fun hHeld => ?_)
        · (try dsimp only) <;> (first | exact SX.out _ hx | exact SX.out _ (hx.alloc_ _))
        clear hK K
        try simp only [Act.put, List.setIfInBounds_toArray, List.set_cons_zero, List.set_cons_succ]
        refine wpAnyH_take (i := 4) (oi := ?_) (v := ?_) ?_ ?_ ?_ ?_ ?_ ?_ ?_ ?_
        rotate_left 2
        · (simp only [List.getElem?_toArray, List.getElem?_cons_succ, List.getElem?_cons_zero]; exact rfl)
        · kernel_rfl
        · kernel_rfl
        · kernel_rfl
        · exact fun _ _ _ h => h
        · first | (refine Or.inl ⟨by rfl, ?_⟩; intro w hSw; (try dsimp only at hSw); go_simp; try with_reducible rfl) | (refine Or.inr ⟨by rfl, ?_⟩; rfl)
        · assumption
        try simp only [Act.put, List.setIfInBounds_toArray, List.set_cons_zero, List.set_cons_succ]
        refine wpAnyH_take (i := 5) (oi := ?_) (v := ?_) ?_ ?_ ?_ ?_ ?_ ?_ ?_ ?_
        rotate_left 2
        · (simp only [List.getElem?_toArray, List.getElem?_cons_succ, List.getElem?_cons_zero]; exact rfl)
        · kernel_rfl
        · kernel_rfl
        · kernel_rfl
        · exact fun _ _ _ h => h
        · first | (refine Or.inl ⟨by rfl, ?_⟩; intro w hSw; (try dsimp only at hSw); go_simp; try with_reducible rfl) | (refine Or.inr ⟨by rfl, ?_⟩; rfl)
        · assumption
        try simp only [Act.put, List.setIfInBounds_toArray, List.set_cons_zero, List.set_cons_succ]
        refine wpAnyH_ready (rs := [8]) (by kernel_rfl) (by simp) ?_
        refine AllReadyH.cons (o := ?_) ?_ (fun K hK => ?_) ?_
        rotate_left 1
        · (simp only [List.getElem?_toArray, List.getElem?_cons_succ, List.getElem?_cons_zero]; exact rfl)
        · go_simp
          (first | (go_at_call 67; (with_reducible refine (KU.out _ _ hx).mono ?_); rintro e wx ⟨rfl, hx⟩; dsimp only) | (go_at_call 34; (with_reducible refine (KI.out _ _ hx).mono ?_); rintro e wx ⟨rfl, hx⟩; dsimp only) | (go_at_call 83; (with_reducible refine (KT.out _ _ hx).mono ?_); rintro e wx ⟨rfl, hx⟩; dsimp only))
          refine hK.out _ _ ?_ (fun hHeld => ?_)
          · (try dsimp only) <;> (first | exact SX.out _ hx | exact SX.out _ (hx.alloc_ _))
          clear hK K
          try simp only [Act.put, List.setIfInBounds_toArray, List.set_cons_zero, List.set_cons_succ]
          refine wpAnyH_take (i := 9) (oi := ?_) (v := ?_) ?_ ?_ ?_ ?_ ?_ ?_ ?_ ?_
          rotate_left 2
          · (simp only [List.getElem?_toArray, List.getElem?_cons_succ, List.getElem?_cons_zero]; exact rfl)
          · kernel_rfl
          · kernel_rfl
          · kernel_rfl
          · exact fun _ _ _ h => h
          · first | (refine Or.inl ⟨by rfl, ?_⟩; intro w hSw; (try dsimp only at hSw); go_simp; try with_reducible rfl) | (refine Or.inr ⟨by rfl, ?_⟩; rfl)
          · assumption
          try simp only [Act.put, List.setIfInBounds_toArray, List.set_cons_zero, List.set_cons_succ]
          refine wpAnyH_take (i := 10) (oi := ?_) (v := ?_) ?_ ?_ ?_ ?_ ?_ ?_ ?_ ?_
          rotate_left 2
          · (simp only [List.getElem?_toArray, List.getElem?_cons_succ, List.getElem?_cons_zero]; exact rfl)
          · kernel_rfl
          · kernel_rfl
          · kernel_rfl
          · exact fun _ _ _ h => h
          · first | (refine Or.inl ⟨by rfl, ?_⟩; intro w hSw; (try dsimp only at hSw); go_simp; try with_reducible rfl) | (refine Or.inr ⟨by rfl, ?_⟩; rfl)
          · assumption
          try simp only [Act.put, List.setIfInBounds_toArray, List.set_cons_zero, List.set_cons_succ]
          refine wpAnyH_ready (rs := [13]) (by kernel_rfl) (by simp) ?_
          refine AllReadyH.cons (o := ?_) ?_ (fun K hK => ?_) ?_
          rotate_left 1
          · (simp only [List.getElem?_toArray, List.getElem?_cons_succ, List.getElem?_cons_zero]; exact rfl)
          · go_simp
            (first | (go_at_call 67; (with_reducible refine (KU.out _ _ hx).mono ?_); rintro e wx ⟨rfl, hx⟩; dsimp only) | (go_at_call 34; (with_reducible refine (KI.out _ _ hx).mono ?_); rintro e wx ⟨rfl, hx⟩; dsimp only) | (go_at_call 83; (with_reducible refine (KT.out _ _ hx).mono ?_); rintro e wx ⟨rfl, hx⟩; dsimp only))
            refine hK.out _ _ ?_ (fun hHeld => ?_)
            · (try dsimp only) <;> (first | exact SX.out _ hx | exact SX.out _ (hx.alloc_ _))
            clear hK K
            try simp only [Act.put, List.setIfInBounds_toArray, List.set_cons_zero, List.set_cons_succ]
            refine wpAnyH_take (i := 14) (oi := ?_) (v := ?_) ?_ ?_ ?_ ?_ ?_ ?_ ?_ ?_
            rotate_left 2
            · (simp only [List.getElem?_toArray, List.getElem?_cons_succ, List.getElem?_cons_zero]; exact rfl)
            · kernel_rfl
            · kernel_rfl
            · kernel_rfl
            · exact fun _ _ _ h => h
            · first | (refine Or.inl ⟨by rfl, ?_⟩; intro w hSw; (try dsimp only at hSw); go_simp; try with_reducible rfl) | (refine Or.inr ⟨by rfl, ?_⟩; rfl)
            · assumption
            try simp only [Act.put, List.setIfInBounds_toArray, List.set_cons_zero, List.set_cons_succ]
            refine wpAnyH_take (i := 15) (oi := ?_) (v := ?_) ?_ ?_ ?_ ?_ ?_ ?_ ?_ ?_
            rotate_left 2
            · (simp only [List.getElem?_toArray, List.getElem?_cons_succ, List.getElem?_cons_zero]; exact rfl)
            · kernel_rfl
            · kernel_rfl
            · kernel_rfl
            · exact fun _ _ _ h => h
            · first | (refine Or.inl ⟨by rfl, ?_⟩; intro w hSw; (try dsimp only at hSw); go_simp; try with_reducible rfl) | (refine Or.inr ⟨by rfl, ?_⟩; rfl)
            · assumption
            try simp only [Act.put, List.setIfInBounds_toArray, List.set_cons_zero, List.set_cons_succ]
            refine wpAnyH_take (i := 16) (oi := ?_) (v := ?_) ?_ ?_ ?_ ?_ ?_ ?_ ?_ ?_
            rotate_left 2
            · (simp only [List.getElem?_toArray, List.getElem?_cons_succ, List.getElem?_cons_zero]; exact rfl)
            · kernel_rfl
            · kernel_rfl
            · kernel_rfl
            · exact fun _ _ _ h => h
            · first | (refine Or.inl ⟨by rfl, ?_⟩; intro w hSw; (try dsimp only at hSw); go_simp; try with_reducible rfl) | (refine Or.inr ⟨by rfl, ?_⟩; rfl)
            · assumption
            try simp only [Act.put, List.setIfInBounds_toArray, List.set_cons_zero, List.set_cons_succ]
            refine wpAnyH_done (by kernel_rfl) ?_ _
            have c0 := hx.slt.1
            rw [S.out] at c0
            go_wp2_with fail
            go_ret
            exact ⟨congrArg (fun s => Ending.returned (Value.string s)) (by apply ByteArray.ext; apply Array.toList_inj.1; simp), St.weaken (A := [_]) hx⟩
          exact AllReadyH.nil
        exact AllReadyH.nil
      exact AllReadyH.nil
end
end Go.Proofs.YtjcekmmieihllaaDoor
