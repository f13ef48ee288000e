/- ManifestCuts: the walk of the law. -/
import Derived.Test.YtfbffmckmchbbaaDoorMlX
namespace Go.Proofs.YtfbffmckmchbbaaDoor
set_option linter.unusedVariables false
set_option linter.unusedSimpArgs false
open Go.RowKit Go.Lib

theorem paD_cut {bs : List UInt8} (h : ownGood bs = true) (k : Nat) (hk : k < bs.length) : paD (bs.take k) = (mdat zman [], 131) := by
  unfold paD
  rw [if_neg]
  intro hg
  have h2 := good_app (x := bs.drop k) hg (by rw [List.take_append_drop]; exact h)
  have := congrArg List.length h2
  rw [List.length_drop, List.length_nil] at this
  omega
theorem paD_more {bs x : List UInt8} (h : ownGood bs = true) (hx : x ≠ []) : paD (bs ++ x) = (mdat zman [], 131) := by
  unfold paD
  rw [if_neg]
  intro hg
  exact hx (good_app h hg)
theorem row_cap {A : Option Addr} {n c : Nat} {xs : List Value} {L : List (Nat × Obj)} (h : Row 5 1 (.slice A n c) n xs L) : n ≤ c := by
  obtain ⟨_, ⟨hv, h0, hx⟩ | ⟨g, off, cap, cur, hv, hL, hc1, hc2, hc3, hc4⟩⟩ := h
  · injection hv with _ _ q
    omega
  · injection hv with _ _ q
    omega

set_option maxRecDepth 100000 in
set_option maxHeartbeats 4000000 in
theorem walk_manifestCuts (W : World) (tabs : Tabs W) {H : Type} {enc : TypeId × Value → H} {v0 v1 v2 : Value} (a0 : Arg enc Tryd.prog W 29 v0) (a1 : Arg enc Tryd.prog W 3 v1) (a2 : Arg enc Tryd.prog W 22 v2) :
    Calls Tryd.prog 7 #[v0, v1, v2] W fun e w' => e = .returned (.bool true) ∧ Below W.heap.size W w' := by
  obtain ⟨m, hs, rfl, hm⟩ := a0.manifest
  obtain ⟨cut, rfl, hcw⟩ := a1.int Tryd.underlying3
  obtain ⟨cu0, cu1⟩ := wf_i64 hcw
  obtain ⟨AM, nM, cM, M, rfl, rfl, hMc, hMcm, hMin⟩ := a2.bytes Tryd.underlying22 Tryd.underlying5 (by kernel_rfl)
  have t := TB.start tabs
  have h0 := (St.start W).alloc (.cells m.cells 29)
  have kA := man_alive t h0
  obtain ⟨ba, hba⟩ : ∃ b, W.heap.size = b := ⟨_, rfl⟩
  rw [hba] at h0 kA
  have kG1 := fun (v : World) (hv : St W v (fun b => W.heap[b]?) [(ba, .cells m.cells 29 (0, 0))]) => great_any m hm.ok hv
  have hmi : (Tryd.prog.info? 29).map (·.size) = some m.cells.size := by rw [Man.cells_size hm.ok]; kernel_rfl
  have hval : m.val = .agg m.cells := rfl
  rw [hval] at kG1 ⊢
  have KA := Lib.hid kA; have TT := Lib.hid t; have HM := Lib.hid hm; have KG1 := Lib.hid kG1; have HMI := Lib.hid hmi; have HMIN := Lib.hid hMin
  clear kA h0 t a0 tabs kG1 hmi hval hm a1 a2 hcw hMin
  go_enter Tryd.func7, Tryd.ntmps7
  go_wp2_with fail
  refine KA.out.mono ?_
  rintro e w1 ⟨rfl, h1⟩
  have H1 := Lib.hid h1
  clear hba KA h1
  go_wp2_with (with_reducible refine wpList_load_st rfl 29 (.tmp 3) rfl (g := ba) (off := 0) rfl H1.out (cs := m.cells) (t := 29) (fr := (0, 0)) (by simp) m.cells (fun j hj => by rw [Nat.zero_add]) _ Tryd.underlying29 rfl HMI.out ?_)
  refine (KG1.out _ H1.out).mono ?_
  rintro e w2 ⟨rfl, h2⟩
  have H2 := Lib.hid h2
  have HF : Hid (Below W.heap.size W w2) := Lib.hid (h2.below (Le.refl _))
  clear h2 H1
  obtain ⟨G, hG⟩ : ∃ G, (decide (300 < m.prod.size) || decide (100 < m.n)) = G := ⟨_, rfl⟩
  rw [hG]
  cases G with
  | true =>
    clear hG
    go_wp2_with fail
    go_ret
    exact ⟨rfl, HF.out⟩
  | false =>
  have hsz : m.prod.size ≤ 300 ∧ m.n ≤ 100 := by
    simp only [Bool.or_eq_false_iff, decide_eq_false_iff_not] at hG
    omega
  have MI1 : Hid (MI m hs W (fun b => W.heap[b]?)) := Lib.hid (HM.out.mi hsz.1 hsz.2)
  have kR := right_own TT.out m HM.out.ok (by omega) H2.out
  obtain ⟨R, hR⟩ : ∃ R, rightM m = R := ⟨_, rfl⟩
  rw [hR, show m.val = .agg m.cells from rfl] at kR
  have KR := Lib.hid kR; have HR := Lib.hid hR
  clear hG hsz kR hR KG1
  go_wp2_with (refine wpList_load_g (by rfl) 29 (.tmp 3) rfl (g := ba) (off := 0) rfl H2.out (cs := m.cells) (t := 29) (fr := (0, 0)) (by simp) m.cells (fun j hj => by rw [Nat.zero_add]) _ Tryd.underlying29 rfl HMI.out ?_)
  refine KR.out.mono ?_
  rintro e w3 ⟨rfl, h3⟩
  have HF : Hid (Below W.heap.size W w3) := Lib.hid (h3.below (Le.refl _))
  have H3 := Lib.hid h3
  clear h3 H2 KR
  cases R with
  | false =>
    go_wp2_with fail
    go_ret
    exact ⟨rfl, HF.out⟩
  | true =>
  by_cases g3 : (100 : Int) < M.length
  · go_wp2_with fail
    go_ret
    exact ⟨rfl, HF.out⟩
  have hbl := mBy_len MI1.out
  have hps : m.prod.size ≤ 96 ∧ hs.length ≤ 64 := by
    have h := (rightM_iff m).1 HR.out
    have := name_short h.1
    have := MI1.out.n
    omega
  obtain ⟨q1, q2⟩ := paD_mBy' MI1.out HR.out
  have kB := pbytes TT.out MI1.out H3.out
  rw [HR.out, if_pos rfl, show m.val = .agg m.cells from rfl] at kB
  obtain ⟨BS, hBS⟩ : ∃ BS, mBy m hs = BS := ⟨_, rfl⟩
  rw [hBS] at hbl q1 q2 kB
  have hB1 : BS.length ≤ 3000 := by omega
  have hB0 : 1 ≤ BS.length := by omega
  have KB := Lib.hid kB; have HQ1 := Lib.hid q1; have HQ2 := Lib.hid q2
  clear kB q1 q2 hBS hps HF hbl
  go_wp2_with (with_reducible refine wpList_load_st rfl 29 (.tmp 3) rfl (g := ba) (off := 0) rfl H3.out (cs := m.cells) (t := 29) (fr := (0, 0)) (by simp) m.cells (fun j hj => by rw [Nat.zero_add]) _ Tryd.underlying29 rfl HMI.out ?_)
  refine KB.out.mono ?_
  rintro e w4 ⟨v, rfl, A3, c3, L3, rfl, hr4, h4⟩
  have hcap := row_cap hr4
  obtain ⟨J4, hle4, hin4, h5⟩ := part_freeze hr4 h4
  have kP := ppa (TT.out.more hle4) ⟨A3, c3, BS⟩ hin4 (by simp only; omega) hcap h5
  rw [HQ2.out] at kP
  have KP := Lib.hid kP; have HLE4 := Lib.hid hle4; have HIN4 := Lib.hid hin4
  clear kP hle4 hin4 h4 h5 hr4 H3 KB HQ2
  go_wp2_with fail
  refine KP.out.mono ?_
  rintro e w5 ⟨J5, m8, hs8, hle5, rfl, mi8, hd8, h5⟩
  simp only at hd8 ⊢
  have HLE5 := Lib.hid hle5; have HD8 := Lib.hid hd8; have MI8 := Lib.hid mi8
  clear KP hle5 hd8
  have hA := (h5).alloc (.cells zman.cells 29)
  rw [zman_lit] at hA
  obtain ⟨hmo, hmi, hfx, hsm⟩ := man_store (mi8).ok
  have HA := Lib.hid hA; have HMO := Lib.hid hmo; have HMI6 := Lib.hid hmi; have HFX := Lib.hid hfx; have HSM := Lib.hid hsm
  rw [show m8.val = .agg m8.cells from rfl]
  clear hA hmo hmi hfx hsm 
  go_wp2_with (with_reducible refine wpList_store_st rfl 29 (.tmp 8) (.tmp 33) rfl (g := w5.heap.size) (off := 0) m8.cells rfl rfl HA.out HFX.out HMI6.out HMO.out ?_; intro w6 h6; refine Hid.out ?_)
  refine Lib.hid ?_
  rw [HSM.out] at h6
  generalize w5.heap.size = b6 at *
  have H6 := Lib.hid h6
  clear HA HMO HFX HSM h6
  clear mi8 h5
  have kS := psame MI8.out ((MI1.out.mono HLE4.out).mono HLE5.out) H6.out
  rw [decide_eq_true HD8.out, show m.val = .agg m.cells from rfl, show m8.val = .agg m8.cells from rfl] at kS
  have KS := Lib.hid kS
  clear kS HD8
  go_wp2_with (first
    | (refine wpList_load_g (by rfl) 29 (.tmp 8) rfl (g := b6) (off := 0) rfl H6.out (cs := m8.cells) (t := 29) (fr := (0, 0)) (by simp) m8.cells (fun j hj => by rw [Nat.zero_add]) _ Tryd.underlying29 rfl HMI6.out ?_)
    | (refine wpList_load_g (by rfl) 29 (.tmp 3) rfl (g := ba) (off := 0) rfl H6.out (cs := m.cells) (t := 29) (fr := (0, 0)) (by simp) m.cells (fun j hj => by rw [Nat.zero_add]) _ Tryd.underlying29 rfl HMI.out ?_))
  refine KS.out.mono ?_
  rintro e w7 ⟨rfl, h7⟩
  have H7 := Lib.hid h7
  clear h7 H6 KS
  by_cases g4 : 0 ≤ cut ∧ cut < (BS.length : Int)
  · obtain ⟨g4, g5⟩ := g4
    obtain ⟨k, rfl⟩ : ∃ k : Nat, cut = (k : Int) := ⟨cut.toNat, by omega⟩
    have hk : k < BS.length := by omega
    have e1 : (BS.take k).length = k := by simp; omega
    have sl1 := fun w => run_slice_to Tryd.underlying22 Tryd.sizeOf5 A3 BS.length c3 k (by omega) w
    have tJ5 := (TT.out.more HLE4.out).more HLE5.out
    have kP := ppa tJ5 ⟨A3, c3, BS.take k⟩ (Part.In_take c3 k (HIN4.out.mono HLE5.out)) (by simp only [e1]; omega) (by simp only [e1]; omega) H7.out
    rw [paD_cut HQ1.out k hk] at kP
    simp only [e1] at kP
    have KP := Lib.hid kP; have TJ5 := Lib.hid tJ5
    clear kP tJ5 e1
    go_wp2_with fail
    refine KP.out.mono ?_
    rintro e w9 ⟨J9, m9, hs9, hle9, rfl, mi9, hd9, h9⟩
    have HLE9 := Lib.hid hle9; have HD9 := Lib.hid hd9; have MI9 := Lib.hid mi9
    clear KP hle9 hd9 H7 sl1
    have hA := (h9).alloc (.cells zman.cells 29)
    rw [zman_lit] at hA
    obtain ⟨hmo, hmi, hfx, hsm⟩ := man_store (mi9).ok
    have HA := Lib.hid hA; have HMO := Lib.hid hmo; have HMI10 := Lib.hid hmi; have HFX := Lib.hid hfx; have HSM := Lib.hid hsm
    rw [show m9.val = .agg m9.cells from rfl]
    clear hA hmo hmi hfx hsm 
    go_wp2_with (with_reducible refine wpList_store_st rfl 29 (.tmp 10) (.tmp 56) rfl (g := w9.heap.size) (off := 0) m9.cells rfl rfl HA.out HFX.out HMI10.out HMO.out ?_; intro w10 h10; refine Hid.out ?_)
    refine Lib.hid ?_
    rw [HSM.out] at h10
    generalize w9.heap.size = b10 at *
    have H10 := Lib.hid h10
    clear HA HMO HFX HSM h10
    clear mi9 h9
    have kS := psame MI9.out MI.zero H10.out
    rw [decide_eq_true HD9.out, show m9.val = .agg m9.cells from rfl, show zman.val = .agg zman.cells from rfl, zman_lit] at kS
    have KS := Lib.hid kS
    clear kS HD9
    go_wp2_with (first
      | (refine wpList_load_g (by rfl) 29 (.tmp 10) rfl (g := b10) (off := 0) rfl H10.out (cs := m9.cells) (t := 29) (fr := (0, 0)) (by simp) m9.cells (fun j hj => by rw [Nat.zero_add]) _ Tryd.underlying29 rfl HMI10.out ?_))
    refine KS.out.mono ?_
    rintro e w11 ⟨rfl, h11⟩
    have HS := Lib.hid h11; have HLE := Lib.hid ((HLE4.out.trans HLE5.out).trans HLE9.out); have HINB : Hid (Part.In ⟨A3, c3, BS⟩ W J9) := Lib.hid ((HIN4.out.mono HLE5.out).mono HLE9.out)
    clear h11 H10 KS
    obtain ⟨LN, hLN⟩ : ∃ LN, LN = ((b10, Obj.cells m9.cells 29 (0, 0)) :: (b6, Obj.cells m8.cells 29 (0, 0)) :: (ba, Obj.cells m.cells 29 (0, 0)) :: []) := ⟨_, rfl⟩
    have HS' : Hid (St W w11 J9 LN) := Lib.hid (by rw [hLN]; exact HS.out)
    have hx := HS'.out.alloc (.cells #[] 5)
    have hsrc := HINB.out _ _ hx
    simp only at hsrc
    have HX := Lib.hid hx; have HSRC := Lib.hid hsrc
    clear hx hsrc HS
    go_wp2_with (at_builtin; refine Hid.out ?_)
    refine Lib.hid ?_
    refine wpList_append_row (F := LN) (L := [(w11.heap.size, .cells #[] 5 (0, 0))]) rfl (.tmp 67) (.tmp 68) 22 rfl 5 (.int .u8 0) 1 1 Tryd.underlying22 (by kernel_rfl) rfl (by omega) rfl (Row.empty 5 1 w11.heap.size) (by exact HX.out) rfl HSRC.out (one_bval _) BS.length (by omega) (BS.map bval) (by simp) (by unfold maxLen; omega) (by omega) ?_
    intro A12 c12 w12 L12 hr12 h12
    have hsrc := (HMIN.out.mono HLE.out) _ _ h12
    simp only at hsrc
    have H12 := Lib.hid h12; have HR12 := Lib.hid hr12; have HSRC2 := Lib.hid hsrc
    clear h12 hr12 hsrc HX HSRC HS'
    go_wp2_with (at_builtin; refine Hid.out ?_)
    refine Lib.hid ?_
    refine wpList_append_row (F := LN) (L := L12) rfl (.tmp 69) (.tmp 70) 22 rfl 5 (.int .u8 0) 1 1 Tryd.underlying22 (by kernel_rfl) rfl (by omega) rfl HR12.out H12.out rfl HSRC2.out (one_bval _) (BS.length + M.length) rfl ((BS ++ M).map bval) (by rw [List.map_append]) (by unfold maxLen; omega) (by omega) ?_
    intro A13 c13 w13 L13 hr13 h13
    have hl : (BS ++ M).length = BS.length + M.length := List.length_append
    rw [← hl] at hr13
    have hcap2 := row_cap hr13
    obtain ⟨J13, hle13, hin13, h14⟩ := part_freeze hr13 h13
    have kP := ppa ((TT.out.more HLE.out).more hle13) ⟨A13, c13, BS ++ M⟩ hin13 (by simp only [hl]; omega) hcap2 h14
    simp only [hl] at kP
    have KP := Lib.hid kP; have HLE13 := Lib.hid hle13
    clear kP hle13 hin13 h13 h14 hr13 H12 HR12 HSRC2 hl hcap2
    obtain ⟨D, hD⟩ : ∃ D, (paD (BS ++ M)).2 = D := ⟨_, rfl⟩
    have hD2 : (M.length = 0 → D = 0) ∧ (M.length ≠ 0 → D = 131) := by
      constructor
      · intro h
        have hM : M = [] := List.eq_nil_of_length_eq_zero h
        rw [← hD, hM, List.append_nil]
        unfold paD
        rw [if_pos HQ1.out]
      · intro h
        have hM : M ≠ [] := fun e => h (by rw [e]; rfl)
        rw [← hD, paD_more HQ1.out hM]
    have HDD := Lib.hid hD; have HD2 := Lib.hid hD2
    clear hD hD2
    go_wp2_with fail
    refine KP.out.mono ?_
    rintro e w15 ⟨J15, m15, hs15, hle15, rfl, mi15, hd15, h15⟩
    have HLE15 := Lib.hid hle15
    rw [HDD.out]
    clear KP hle15 hd15
    have hA := (h15).alloc (.cells zman.cells 29)
    rw [zman_lit] at hA
    obtain ⟨hmo, hmi, hfx, hsm⟩ := man_store (mi15).ok
    have HA := Lib.hid hA; have HMO := Lib.hid hmo; have HMI16 := Lib.hid hmi; have HFX := Lib.hid hfx; have HSM := Lib.hid hsm
    rw [show m15.val = .agg m15.cells from rfl]
    clear hA hmo hmi hfx hsm 
    go_wp2_with (with_reducible refine wpList_store_st rfl 29 (.tmp 12) (.tmp 73) rfl (g := w15.heap.size) (off := 0) m15.cells rfl rfl HA.out HFX.out HMI16.out HMO.out ?_; intro w16 h16; refine Hid.out ?_)
    refine Lib.hid ?_
    rw [HSM.out] at h16
    generalize w15.heap.size = b16 at *
    have H16 := Lib.hid h16
    clear HA HMO HFX HSM h16
    clear mi15 h15
    have HFin : Hid (Below W.heap.size W w16) := Lib.hid (H16.out.below ((HLE.out.trans HLE13.out).trans HLE15.out))
    clear H16
    by_cases gM : M.length = 0
    · obtain rfl : D = 0 := HD2.out.1 gM
      have gM' : (M.length : Int) = 0 := by omega
      clear HD2 HDD gM
      go_wp2_with fail
      go_ret
      exact ⟨by first | rfl | simp, HFin.out⟩
    · obtain rfl : D = 131 := HD2.out.2 gM
      have gM' : ¬ (M.length : Int) = 0 := by omega
      have gM'' : ((M.length : Int) == 0) = false := by simpa using gM
      clear HD2 HDD gM
      go_wp2_with fail
      go_ret
      exact ⟨by first | rfl | simp, HFin.out⟩
  · have g4' : ¬ (0 ≤ cut) ∨ ¬ (cut < (BS.length : Int)) := by omega
    have HS := H7; have HLE := Lib.hid (HLE4.out.trans HLE5.out); have HINB : Hid (Part.In ⟨A3, c3, BS⟩ W J5) := Lib.hid (HIN4.out.mono HLE5.out)
    clear H7
    by_cases g5 : 0 ≤ cut
    · have g6 : ¬ (cut < (BS.length : Int)) := fun h => g4 ⟨g5, h⟩
      clear g4 g4'
      obtain ⟨LN, hLN⟩ : ∃ LN, LN = ((b6, Obj.cells m8.cells 29 (0, 0)) :: (ba, Obj.cells m.cells 29 (0, 0)) :: []) := ⟨_, rfl⟩
      have HS' : Hid (St W w7 J5 LN) := Lib.hid (by rw [hLN]; exact HS.out)
      have hx := HS'.out.alloc (.cells #[] 5)
      have hsrc := HINB.out _ _ hx
      simp only at hsrc
      have HX := Lib.hid hx; have HSRC := Lib.hid hsrc
      clear hx hsrc HS
      go_wp2_with (at_builtin; refine Hid.out ?_)
      refine Lib.hid ?_
      refine wpList_append_row (F := LN) (L := [(w7.heap.size, .cells #[] 5 (0, 0))]) rfl (.tmp 67) (.tmp 68) 22 rfl 5 (.int .u8 0) 1 1 Tryd.underlying22 (by kernel_rfl) rfl (by omega) rfl (Row.empty 5 1 w7.heap.size) (by exact HX.out) rfl HSRC.out (one_bval _) BS.length (by omega) (BS.map bval) (by simp) (by unfold maxLen; omega) (by omega) ?_
      intro A12 c12 w12 L12 hr12 h12
      have hsrc := (HMIN.out.mono HLE.out) _ _ h12
      simp only at hsrc
      have H12 := Lib.hid h12; have HR12 := Lib.hid hr12; have HSRC2 := Lib.hid hsrc
      clear h12 hr12 hsrc HX HSRC HS'
      go_wp2_with (at_builtin; refine Hid.out ?_)
      refine Lib.hid ?_
      refine wpList_append_row (F := LN) (L := L12) rfl (.tmp 69) (.tmp 70) 22 rfl 5 (.int .u8 0) 1 1 Tryd.underlying22 (by kernel_rfl) rfl (by omega) rfl HR12.out H12.out rfl HSRC2.out (one_bval _) (BS.length + M.length) rfl ((BS ++ M).map bval) (by rw [List.map_append]) (by unfold maxLen; omega) (by omega) ?_
      intro A13 c13 w13 L13 hr13 h13
      have hl : (BS ++ M).length = BS.length + M.length := List.length_append
      rw [← hl] at hr13
      have hcap2 := row_cap hr13
      obtain ⟨J13, hle13, hin13, h14⟩ := part_freeze hr13 h13
      have kP := ppa ((TT.out.more HLE.out).more hle13) ⟨A13, c13, BS ++ M⟩ hin13 (by simp only [hl]; omega) hcap2 h14
      simp only [hl] at kP
      have KP := Lib.hid kP; have HLE13 := Lib.hid hle13
      clear kP hle13 hin13 h13 h14 hr13 H12 HR12 HSRC2 hl hcap2
      obtain ⟨D, hD⟩ : ∃ D, (paD (BS ++ M)).2 = D := ⟨_, rfl⟩
      have hD2 : (M.length = 0 → D = 0) ∧ (M.length ≠ 0 → D = 131) := by
        constructor
        · intro h
          have hM : M = [] := List.eq_nil_of_length_eq_zero h
          rw [← hD, hM, List.append_nil]
          unfold paD
          rw [if_pos HQ1.out]
        · intro h
          have hM : M ≠ [] := fun e => h (by rw [e]; rfl)
          rw [← hD, paD_more HQ1.out hM]
      have HDD := Lib.hid hD; have HD2 := Lib.hid hD2
      clear hD hD2
      go_wp2_with fail
      refine KP.out.mono ?_
      rintro e w15 ⟨J15, m15, hs15, hle15, rfl, mi15, hd15, h15⟩
      have HLE15 := Lib.hid hle15
      rw [HDD.out]
      clear KP hle15 hd15
      have hA := (h15).alloc (.cells zman.cells 29)
      rw [zman_lit] at hA
      obtain ⟨hmo, hmi, hfx, hsm⟩ := man_store (mi15).ok
      have HA := Lib.hid hA; have HMO := Lib.hid hmo; have HMI16 := Lib.hid hmi; have HFX := Lib.hid hfx; have HSM := Lib.hid hsm
      rw [show m15.val = .agg m15.cells from rfl]
      clear hA hmo hmi hfx hsm 
      go_wp2_with (with_reducible refine wpList_store_st rfl 29 (.tmp 12) (.tmp 73) rfl (g := w15.heap.size) (off := 0) m15.cells rfl rfl HA.out HFX.out HMI16.out HMO.out ?_; intro w16 h16; refine Hid.out ?_)
      refine Lib.hid ?_
      rw [HSM.out] at h16
      generalize w15.heap.size = b16 at *
      have H16 := Lib.hid h16
      clear HA HMO HFX HSM h16
      clear mi15 h15
      have HFin : Hid (Below W.heap.size W w16) := Lib.hid (H16.out.below ((HLE.out.trans HLE13.out).trans HLE15.out))
      clear H16
      by_cases gM : M.length = 0
      · obtain rfl : D = 0 := HD2.out.1 gM
        have gM' : (M.length : Int) = 0 := by omega
        clear HD2 HDD gM
        go_wp2_with fail
        go_ret
        exact ⟨by first | rfl | simp, HFin.out⟩
      · obtain rfl : D = 131 := HD2.out.2 gM
        have gM' : ¬ (M.length : Int) = 0 := by omega
        have gM'' : ((M.length : Int) == 0) = false := by simpa using gM
        clear HD2 HDD gM
        go_wp2_with fail
        go_ret
        exact ⟨by first | rfl | simp, HFin.out⟩
    · clear g4 g4'
      obtain ⟨LN, hLN⟩ : ∃ LN, LN = ((b6, Obj.cells m8.cells 29 (0, 0)) :: (ba, Obj.cells m.cells 29 (0, 0)) :: []) := ⟨_, rfl⟩
      have HS' : Hid (St W w7 J5 LN) := Lib.hid (by rw [hLN]; exact HS.out)
      have hx := HS'.out.alloc (.cells #[] 5)
      have hsrc := HINB.out _ _ hx
      simp only at hsrc
      have HX := Lib.hid hx; have HSRC := Lib.hid hsrc
      clear hx hsrc HS
      go_wp2_with (at_builtin; refine Hid.out ?_)
      refine Lib.hid ?_
      refine wpList_append_row (F := LN) (L := [(w7.heap.size, .cells #[] 5 (0, 0))]) rfl (.tmp 67) (.tmp 68) 22 rfl 5 (.int .u8 0) 1 1 Tryd.underlying22 (by kernel_rfl) rfl (by omega) rfl (Row.empty 5 1 w7.heap.size) (by exact HX.out) rfl HSRC.out (one_bval _) BS.length (by omega) (BS.map bval) (by simp) (by unfold maxLen; omega) (by omega) ?_
      intro A12 c12 w12 L12 hr12 h12
      have hsrc := (HMIN.out.mono HLE.out) _ _ h12
      simp only at hsrc
      have H12 := Lib.hid h12; have HR12 := Lib.hid hr12; have HSRC2 := Lib.hid hsrc
      clear h12 hr12 hsrc HX HSRC HS'
      go_wp2_with (at_builtin; refine Hid.out ?_)
      refine Lib.hid ?_
      refine wpList_append_row (F := LN) (L := L12) rfl (.tmp 69) (.tmp 70) 22 rfl 5 (.int .u8 0) 1 1 Tryd.underlying22 (by kernel_rfl) rfl (by omega) rfl HR12.out H12.out rfl HSRC2.out (one_bval _) (BS.length + M.length) rfl ((BS ++ M).map bval) (by rw [List.map_append]) (by unfold maxLen; omega) (by omega) ?_
      intro A13 c13 w13 L13 hr13 h13
      have hl : (BS ++ M).length = BS.length + M.length := List.length_append
      rw [← hl] at hr13
      have hcap2 := row_cap hr13
      obtain ⟨J13, hle13, hin13, h14⟩ := part_freeze hr13 h13
      have kP := ppa ((TT.out.more HLE.out).more hle13) ⟨A13, c13, BS ++ M⟩ hin13 (by simp only [hl]; omega) hcap2 h14
      simp only [hl] at kP
      have KP := Lib.hid kP; have HLE13 := Lib.hid hle13
      clear kP hle13 hin13 h13 h14 hr13 H12 HR12 HSRC2 hl hcap2
      obtain ⟨D, hD⟩ : ∃ D, (paD (BS ++ M)).2 = D := ⟨_, rfl⟩
      have hD2 : (M.length = 0 → D = 0) ∧ (M.length ≠ 0 → D = 131) := by
        constructor
        · intro h
          have hM : M = [] := List.eq_nil_of_length_eq_zero h
          rw [← hD, hM, List.append_nil]
          unfold paD
          rw [if_pos HQ1.out]
        · intro h
          have hM : M ≠ [] := fun e => h (by rw [e]; rfl)
          rw [← hD, paD_more HQ1.out hM]
      have HDD := Lib.hid hD; have HD2 := Lib.hid hD2
      clear hD hD2
      go_wp2_with fail
      refine KP.out.mono ?_
      rintro e w15 ⟨J15, m15, hs15, hle15, rfl, mi15, hd15, h15⟩
      have HLE15 := Lib.hid hle15
      rw [HDD.out]
      clear KP hle15 hd15
      have hA := (h15).alloc (.cells zman.cells 29)
      rw [zman_lit] at hA
      obtain ⟨hmo, hmi, hfx, hsm⟩ := man_store (mi15).ok
      have HA := Lib.hid hA; have HMO := Lib.hid hmo; have HMI16 := Lib.hid hmi; have HFX := Lib.hid hfx; have HSM := Lib.hid hsm
      rw [show m15.val = .agg m15.cells from rfl]
      clear hA hmo hmi hfx hsm 
      go_wp2_with (with_reducible refine wpList_store_st rfl 29 (.tmp 12) (.tmp 73) rfl (g := w15.heap.size) (off := 0) m15.cells rfl rfl HA.out HFX.out HMI16.out HMO.out ?_; intro w16 h16; refine Hid.out ?_)
      refine Lib.hid ?_
      rw [HSM.out] at h16
      generalize w15.heap.size = b16 at *
      have H16 := Lib.hid h16
      clear HA HMO HFX HSM h16
      clear mi15 h15
      have HFin : Hid (Below W.heap.size W w16) := Lib.hid (H16.out.below ((HLE.out.trans HLE13.out).trans HLE15.out))
      clear H16
      by_cases gM : M.length = 0
      · obtain rfl : D = 0 := HD2.out.1 gM
        have gM' : (M.length : Int) = 0 := by omega
        clear HD2 HDD gM
        go_wp2_with fail
        go_ret
        exact ⟨by first | rfl | simp, HFin.out⟩
      · obtain rfl : D = 131 := HD2.out.2 gM
        have gM' : ¬ (M.length : Int) = 0 := by omega
        have gM'' : ((M.length : Int) == 0) = false := by simpa using gM
        clear HD2 HDD gM
        go_wp2_with fail
        go_ret
        exact ⟨by first | rfl | simp, HFin.out⟩
end Go.Proofs.YtfbffmckmchbbaaDoor
