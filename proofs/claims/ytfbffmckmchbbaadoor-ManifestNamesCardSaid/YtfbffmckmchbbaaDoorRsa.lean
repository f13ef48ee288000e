/- The document's manifest: Same: walk. -/
import Derived.Test.YtfbffmckmchbbaaDoorMsa
namespace Go.Proofs.YtfbffmckmchbbaaDoor
set_option linter.unusedVariables false
set_option linter.unusedSimpArgs false
open Go.RowKit Go.Lib

section
variable {W w : World} {I : Nat → Option Obj} {F : List (Nat × Obj)}
set_option maxRecDepth 100000 in
set_option maxHeartbeats 4000000 in
theorem rsame13 (m1 m2 : Man) (ok1 : m1.Ok) (ok2 : m2.Ok) (hs1 hs2 : List (List UInt8)) (hn1 : m1.n = hs1.length) (hn2 : m2.n = hs2.length) (h1 : HsIn m1.A hs1 W I) (h2 : HsIn m2.A hs2 W I) (l1 : hs1.length ≤ 1000000) (l2 : hs2.length ≤ 1000000) (h : St W w I F) :
    Calls Tryd.prog 14 #[m1.val, m2.val] w fun e w' => e = .returned (.bool (sameM m1 m2 hs1 hs2)) ∧ St W w' I F := by
  have hst := (h.alloc (.cells m1.cells 29)).alloc (.cells m2.cells 29)
  rw [World.size_alloc] at hst
  have fa := man_cells ok1 hst (List.mem_cons_of_mem _ (List.mem_cons_self ..))
  have fb := man_cells ok2 hst (List.mem_cons_self ..)
  obtain ⟨a0, a1, a2, a3, a4⟩ := fa
  obtain ⟨b0, b1, b2, b3, b4⟩ := fb
  obtain ⟨B, hB⟩ : ∃ B, sameM m1 m2 hs1 hs2 = B := ⟨_, rfl⟩
  rw [hB]
  unfold sameM at hB
  have gd1 : ∀ j, j < (bcells m1.dig).size → m1.cells[4 + j]? = (bcells m1.dig)[j]? := fun j hj => by
    obtain ⟨u, hu⟩ : ∃ u, (m1.dig.map bval)[j]? = some u := ⟨_, List.getElem?_eq_getElem (by simpa [bcells] using hj)⟩
    rw [Man.gdx ok1 hu]; unfold bcells; rw [List.getElem?_toArray, hu]
  have gd2 : ∀ j, j < (bcells m2.dig).size → m2.cells[4 + j]? = (bcells m2.dig)[j]? := fun j hj => by
    obtain ⟨u, hu⟩ : ∃ u, (m2.dig.map bval)[j]? = some u := ⟨_, List.getElem?_eq_getElem (by simpa [bcells] using hj)⟩
    rw [Man.gdx ok2 hu]; unfold bcells; rw [List.getElem?_toArray, hu]
  have E1 : ∀ w, (Op.equalIn 10000 26 (.agg (bcells m1.dig)) (.agg (bcells m2.dig))).run Tryd.prog w = .ok (m1.dig == m2.dig) w := fun w => eq_bcells _ _ ok1.dig ok2.dig w
  have ix : (Tryd.prog.info? 26).map (·.size) = some (bcells m1.dig).size := by rw [bcells_size, ok1.dig]; kernel_rfl
  have iy : (Tryd.prog.info? 26).map (·.size) = some (bcells m2.dig).size := by rw [bcells_size, ok2.dig]; kernel_rfl
  have fA : ∀ v : World, St W v I ((w.heap.size + 1, .cells m2.cells 29 (0, 0)) :: (w.heap.size, .cells m1.cells 29 (0, 0)) :: F) → v.cell? ⟨w.heap.size, 36, none⟩ = some (.slice m1.A m1.n m1.c) := fun v hv => (man_cells ok1 hv (List.mem_cons_of_mem _ (List.mem_cons_self ..))).2.2.2.2
  have fB : ∀ v : World, St W v I ((w.heap.size + 1, .cells m2.cells 29 (0, 0)) :: (w.heap.size, .cells m1.cells 29 (0, 0)) :: F) → v.cell? ⟨w.heap.size + 1, 36, none⟩ = some (.slice m2.A m2.n m2.c) := fun v hv => (man_cells ok2 hv (List.mem_cons_self ..)).2.2.2.2
  have hv1 : m1.val = .agg m1.cells := rfl
  have hv2 : m2.val = .agg m2.cells := rfl
  rw [hv1, hv2]
  rw [hn1] at a4 fA
  rw [hn2] at b4 fB
  generalize m1.cells = mc1 at *
  generalize m2.cells = mc2 at *
  obtain ⟨p1, v1, s1, c1, d1, A1, n1, k1⟩ := m1
  obtain ⟨p2, v2, s2, c2, d2, A2, n2, k2⟩ := m2
  simp only at *
  have HST := Lib.hid hst; have HB := Lib.hid hB; have GD1 := Lib.hid gd1; have GD2 := Lib.hid gd2; have IX := Lib.hid ix; have IY := Lib.hid iy; have FA := Lib.hid fA; have FB := Lib.hid fB; have HH1 := Lib.hid h1; have HH2 := Lib.hid h2
  clear hst hB gd1 gd2 ix iy fA fB h1 h2 h hv1 hv2 ok1 ok2 hn1 hn2
  by_cases e1 : p1 = p2
  case neg =>
    have hbe : (p1.toList == p2.toList) = false := str_ne _ _ e1
    have hbe2 : (p1.toList != p2.toList) = true := by rw [bne, hbe]; rfl
    have hb : B = false := by rw [← HB.out]; exact decide_eq_false fun e => e1 e.1
    clear E1 GD1 GD2 IX IY FA FB
    go_enter Tryd.func14, Tryd.ntmps14
    go_wp2_with fail
    go_ret
    exact ⟨by first | rfl | (rw [hb]; rfl) | rw [hb], St.weaken (A := [_, _]) HST.out⟩
  subst e1
  by_cases e2 : v1 = v2
  case neg =>
    have hbe : (v1 == v2) = false := by simpa using e2
    have hbe2 : (v1 != v2) = true := by rw [bne, hbe]; rfl
    have hb : B = false := by rw [← HB.out]; exact decide_eq_false fun e => e2 e.2.1
    clear E1 GD1 GD2 IX IY FA FB
    go_enter Tryd.func14, Tryd.ntmps14
    go_wp2_with fail
    go_ret
    exact ⟨by first | rfl | (rw [hb]; rfl) | rw [hb], St.weaken (A := [_, _]) HST.out⟩
  subst e2
  by_cases e3 : s1 = s2
  case neg =>
    have hbe : (s1 == s2) = false := by simpa using e3
    have hbe2 : (s1 != s2) = true := by rw [bne, hbe]; rfl
    have hb : B = false := by rw [← HB.out]; exact decide_eq_false fun e => e3 e.2.2.1
    clear E1 GD1 GD2 IX IY FA FB
    go_enter Tryd.func14, Tryd.ntmps14
    go_wp2_with fail
    go_ret
    exact ⟨by first | rfl | (rw [hb]; rfl) | rw [hb], St.weaken (A := [_, _]) HST.out⟩
  subst e3
  by_cases e4 : c1 = c2
  case neg =>
    have hbe : (c1 == c2) = false := by simpa using e4
    have hbe2 : (c1 != c2) = true := by rw [bne, hbe]; rfl
    have hb : B = false := by rw [← HB.out]; exact decide_eq_false fun e => e4 e.2.2.2.1
    clear E1 GD1 GD2 IX IY FA FB
    go_enter Tryd.func14, Tryd.ntmps14
    go_wp2_with fail
    go_ret
    exact ⟨by first | rfl | (rw [hb]; rfl) | rw [hb], St.weaken (A := [_, _]) HST.out⟩
  subst e4
  obtain ⟨Q, hQ⟩ : ∃ Q, (d1 == d2) = Q := ⟨_, rfl⟩
  rw [hQ] at E1
  have HQ := Lib.hid hQ
  generalize bcells d1 = X at *
  generalize bcells d2 = Y at *
  clear hQ
  obtain ⟨bw, hbw⟩ : ∃ b, w.heap.size = b := ⟨_, rfl⟩
  cases Q with
  | false =>
    have hb : B = false := by
      rw [← HB.out]
      refine decide_eq_false fun e => ?_
      have h2 := HQ.out
      rw [e.2.2.2.2.1] at h2
      simp at h2
    clear FA FB
    go_enter Tryd.func14, Tryd.ntmps14
    clear hbw
    go_wp2_with (first
      | (refine wpList_load_g (by rfl) 26 (.tmp 33) rfl (g := w.heap.size) (off := 4) rfl HST.out (cs := mc1) (t := 29) (fr := (0, 0)) (by simp) X GD1.out _ Tryd.underlying26 rfl IX.out ?_)
      | (refine wpList_load_g (by rfl) 26 (.tmp 35) rfl (g := w.heap.size + 1) (off := 4) rfl HST.out (cs := mc2) (t := 29) (fr := (0, 0)) (by simp) Y GD2.out _ Tryd.underlying26 rfl IY.out ?_))
    go_ret
    exact ⟨by first | rfl | (rw [hb]; rfl) | rw [hb], St.weaken (A := [_, _]) HST.out⟩
  | true =>
    have hb : B = decide (hs1 = hs2) := by
      rw [← HB.out]
      have h2 := eq_of_beq HQ.out
      simp [h2]
    clear HB
    have HB := Lib.hid hb.symm
    clear hb
    by_cases hl : hs1.length = hs2.length
    case neg =>
      have hli : ((hs1.length : Int) != (hs2.length : Int)) = true := by simp; omega
      have hli2 : ¬ (hs1.length : Int) = (hs2.length : Int) := by omega
      have hb : B = false := by rw [← HB.out]; exact decide_eq_false fun e => hl (by rw [e])
      clear FA FB
      go_enter Tryd.func14, Tryd.ntmps14
      clear hbw
      go_wp2_with (first
        | (refine wpList_load_g (by rfl) 26 (.tmp 33) rfl (g := w.heap.size) (off := 4) rfl HST.out (cs := mc1) (t := 29) (fr := (0, 0)) (by simp) X GD1.out _ Tryd.underlying26 rfl IX.out ?_)
        | (refine wpList_load_g (by rfl) 26 (.tmp 35) rfl (g := w.heap.size + 1) (off := 4) rfl HST.out (cs := mc2) (t := 29) (fr := (0, 0)) (by simp) Y GD2.out _ Tryd.underlying26 rfl IY.out ?_))
      go_ret
      exact ⟨by first | rfl | (rw [hb]; rfl) | rw [hb], St.weaken (A := [_, _]) HST.out⟩
    obtain ⟨n1', hn1⟩ : ∃ n, hs1.length = n := ⟨_, rfl⟩
    rw [← hl] at b4 FB
    rw [hn1] at hl l1 a4 b4 FA FB
    have HN1 := Lib.hid hn1; have HN2 := Lib.hid hl
    clear hn1 hl l2
    go_enter Tryd.func14, Tryd.ntmps14
    clear hbw
    go_wp2_with (first
      | (refine wpList_load_g (by rfl) 26 (.tmp 33) rfl (g := w.heap.size) (off := 4) rfl HST.out (cs := mc1) (t := 29) (fr := (0, 0)) (by simp) X GD1.out _ Tryd.underlying26 rfl IX.out ?_)
      | (refine wpList_load_g (by rfl) 26 (.tmp 35) rfl (g := w.heap.size + 1) (off := 4) rfl HST.out (cs := mc2) (t := 29) (fr := (0, 0)) (by simp) Y GD2.out _ Tryd.underlying26 rfl IY.out ?_))
    clear a0 a1 a2 a3 a4 b0 b1 b2 b3 b4 GD1 GD2 E1 IX IY
    obtain ⟨G, hG⟩ : ∃ G, G = ((w.heap.size + 1, Obj.cells mc2 29 (0, 0)) :: (w.heap.size, .cells mc1 29 (0, 0)) :: F) := ⟨_, rfl⟩
    rw [← hG] at HST FA FB
    have HG := Lib.hid hG
    clear hG
    generalize w.heap.size = bw at *
    go_loopw [51] (fun i wr => ∃ k : Nat, i = .int .i64 k ∧ k ≤ n1' ∧ (∀ j, j < k → hs1[j]? = hs2[j]?) ∧ St W wr I G) (fun i _ => n1' - (intOf i).toNat)
    case atStart => exact ⟨0, rfl, by omega, fun j hj => by omega, HST.out⟩
    case round =>
      obtain ⟨k, rfl, hk, hal, hst⟩ := hrel
      clear HST
      have hn1 := HN1.out
      have hl := HN2.out
      by_cases hkl : k < n1'
      · obtain ⟨x, hx⟩ : ∃ x, hs1[k]? = some x := ⟨_, List.getElem?_eq_getElem (by omega)⟩
        obtain ⟨y, hy⟩ : ∃ y, hs2[k]? = some y := ⟨_, List.getElem?_eq_getElem (by omega)⟩
        obtain ⟨q1, o1, hA1, r1⟩ := HH1.out.range hst hx
        obtain ⟨q2, o2, hA2, r2⟩ := HH2.out.range hst hy
        have hx32 := HH1.out.len x (List.mem_of_getElem? hx)
        have hy32 := HH2.out.len y (List.mem_of_getElem? hy)
        have E1 : ∀ w, (Op.equalIn 10000 26 (.agg (bcells x)) (.agg (bcells y))).run Tryd.prog w = .ok (x == y) w := fun w => eq_bcells _ _ hx32 hy32 w
        obtain ⟨Q, hQ⟩ : ∃ Q, (x == y) = Q := ⟨_, rfl⟩
        rw [hQ] at E1
        have ix : (Tryd.prog.info? 26).map (·.size) = some (bcells x).size := by rw [bcells_size, hx32]; kernel_rfl
        have iy : (Tryd.prog.info? 26).map (·.size) = some (bcells y).size := by rw [bcells_size, hy32]; kernel_rfl
        have rx : ∀ v, (∃ z : CW (fun v => St W v I G), v = z.w) → v.rangeAt q1 (o1 + k * 32) (bcells x).toList := by rintro _ ⟨z, rfl⟩; simpa [bcells] using r1 _ _ z.ok
        have ry : ∀ v, (∃ z : CW (fun v => St W v I G), v = z.w) → v.rangeAt q2 (o2 + k * 32) (bcells y).toList := by rintro _ ⟨z, rfl⟩; simpa [bcells] using r2 _ _ z.ok
        have y1 : ∀ z : CW (fun v => St W v I G), z.w.cell? ⟨bw, 36, none⟩ = some (.slice (some ⟨q1, o1, none⟩) n1' k1) := fun z => by rw [← hA1]; exact FA.out _ z.ok
        have y2 : ∀ z : CW (fun v => St W v I G), z.w.cell? ⟨bw + 1, 36, none⟩ = some (.slice (some ⟨q2, o2, none⟩) n1' k2) := fun z => by rw [← hA2]; exact FB.out _ z.ok
        have hki : (k : Int) < (n1' : Int) := by omega
        have hk0 : (0 : Int) ≤ (k : Int) := by omega
        have HDW := Lib.hid hst.drew1; have IX := Lib.hid ix; have IY := Lib.hid iy; have RX := Lib.hid rx; have RY := Lib.hid ry; have HQ := Lib.hid hQ; have HX := Lib.hid hx; have HY := Lib.hid hy; have HAL := Lib.hid hal
        have hne : Nonempty (CW (fun v => St W v I G)) := ⟨⟨_, HDW.out⟩⟩
        clear hst ix iy rx ry hQ r1 r2 hx32 hy32 hx hy hal hn1 hl hA1 hA2
        generalize bcells x = X at *
        generalize bcells y = Y at *
        go_wp2_with fail
        refine wp_region_cw (fun v => St W v I G) HDW.out (by kernel_rfl) (by kernel_rfl) ?_
        repeat (first
          | (go_big_quiet_want; refine quiet_load_rowK 26 (.tmp 57) rfl (b := q1) (off := o1 + k * 32) rfl X _ RX.out Tryd.underlying26 rfl IX.out ?_; simp only [Act.put, List.setIfInBounds_toArray, List.set_cons_zero, List.set_cons_succ]; go_big_quiet_on)
          | (go_big_quiet_want; refine quiet_load_rowK 26 (.tmp 62) rfl (b := q2) (off := o2 + k * 32) rfl Y _ RY.out Tryd.underlying26 rfl IY.out ?_; simp only [Act.put, List.setIfInBounds_toArray, List.set_cons_zero, List.set_cons_succ]; go_big_quiet_on)
          | go_big_quiet_step (fail))
        refine wpQuiet_nil ?_
        rintro _ ⟨z, rfl⟩
        have hz := z.ok
        have HZ := Lib.hid hz
        clear hz HDW RX RY y1 y2 hne
        cases Q with
        | true =>
          go_wp2_with fail
          refine ⟨⟨k + 1, by go_num, by omega, fun j hj => ?_, HZ.out⟩, by simp [intOf]; omega⟩
          rcases Nat.lt_or_ge j k with h | h
          · exact HAL.out j h
          · obtain rfl : j = k := by omega
            rw [HX.out, HY.out, eq_of_beq HQ.out]
        | false =>
          go_wp2_with fail
          go_ret
          have hz : St W z.w I _ := HZ.out
          clear HZ
          generalize z.w = zw at hz ⊢
          rw [HG.out] at hz
          refine ⟨?_, St.weaken (A := [_, _]) hz⟩
          have hb : B = false := by
            rw [← HB.out]
            refine decide_eq_false fun e => ?_
            have h1 := HX.out
            rw [e, HY.out] at h1
            injection h1 with h1
            have h2 := HQ.out
            rw [h1] at h2
            simp at h2
          rw [hb]
          first | rfl | skip
      · obtain rfl : k = n1' := by omega
        have hb : B = true := by
          rw [← HB.out]
          refine decide_eq_true (List.ext_getElem? fun j => ?_)
          rcases Nat.lt_or_ge j k with h | h
          · exact hal j h
          · rw [List.getElem?_eq_none (by omega), List.getElem?_eq_none (by omega)]
        subst hb
        have HST := Lib.hid hst
        clear hst hal hn1 hl FA FB
        go_wp2_with fail
        go_ret
        have hz := HST.out
        rw [HG.out] at hz
        exact ⟨rfl, St.weaken (A := [_, _]) hz⟩
end
end Go.Proofs.YtfbffmckmchbbaaDoor
