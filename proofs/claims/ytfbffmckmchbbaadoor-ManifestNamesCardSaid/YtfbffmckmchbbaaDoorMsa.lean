/- manifest: Same (and slices.Equal): walks. -/
import Derived.Test.YtfbffmckmchbbaaDoorMkR
import Derived.Test.YtfbffmckmchbbaaDoorManRS
namespace Go.Proofs.YtfbffmckmchbbaaDoor
set_option linter.unusedVariables false
set_option linter.unusedSimpArgs false
open Go.RowKit Go.Lib

theorem Man.gdx {m : Man} {j : Nat} {u : Value} (ok : m.Ok) (hj : (m.dig.map bval)[j]? = some u) : m.cells[4 + j]? = some u := by
  have h1 := (List.getElem?_eq_some_iff.1 hj).1
  rw [List.length_map] at h1
  unfold Man.cells
  rw [List.getElem?_toArray, List.getElem?_append_left (by simp; omega), List.getElem?_append_right (by simp)]
  simpa using hj
theorem str_ne (a b : ByteArray) (h : ¬ a = b) : (a.toList == b.toList) = false := by
  cases hc : (a.toList == b.toList) with
  | false => rfl
  | true =>
    have h1 := eq_of_beq hc
    rw [ByteArray.toList_eq, ByteArray.toList_eq] at h1
    refine absurd ?_ h
    cases a; cases b
    simp only at h1
    rw [Array.toList_inj.1 h1]
section
variable {W w : World} {I : Nat → Option Obj} {F : List (Nat × Obj)}
set_option maxRecDepth 100000 in
set_option maxHeartbeats 4000000 in
theorem hs_equal (A1 A2 : Option Addr) (c1 c2 : Nat) (hs1 hs2 : List (List UInt8)) (h1 : HsIn A1 hs1 W I) (h2 : HsIn A2 hs2 W I) (l1 : hs1.length ≤ 1000000) (l2 : hs2.length ≤ 1000000) (h : St W w I F) :
    Calls Tryd.prog 38 #[.slice A1 hs1.length c1, .slice A2 hs2.length c2] w fun e w' => e = .returned (.bool (decide (hs1 = hs2))) ∧ St W w' I F := by
  by_cases hl : hs1.length = hs2.length
  · obtain ⟨B, hB⟩ : ∃ B, decide (hs1 = hs2) = B := ⟨_, rfl⟩
    rw [hB]
    have HB := Lib.hid hB; have H := Lib.hid h; have H1 := Lib.hid h1; have H2 := Lib.hid h2
    clear h h1 h2 hB
    obtain ⟨n1, hn1⟩ : ∃ n, hs1.length = n := ⟨_, rfl⟩
    rw [← hl]
    rw [hn1] at hl l1 ⊢
    have HN1 := Lib.hid hn1; have HN2 := Lib.hid hl
    clear hn1 hl l2
    go_enter Tryd.func38, Tryd.ntmps38
    go_wp2_with fail
    go_loopw [13] (fun i wr => ∃ k : Nat, i = .int .i64 k ∧ k ≤ n1 ∧ (∀ j, j < k → hs1[j]? = hs2[j]?) ∧ St W wr I F) (fun i _ => n1 - (intOf i).toNat)
    case atStart => exact ⟨0, rfl, by omega, fun j hj => by omega, H.out⟩
    case round =>
      obtain ⟨k, rfl, hk, hal, hst⟩ := hrel
      clear H
      have hn1 := HN1.out
      have hl := HN2.out
      by_cases hkl : k < n1
      · obtain ⟨x, hx⟩ : ∃ x, hs1[k]? = some x := ⟨_, List.getElem?_eq_getElem (by omega)⟩
        obtain ⟨y, hy⟩ : ∃ y, hs2[k]? = some y := ⟨_, List.getElem?_eq_getElem (by omega)⟩
        obtain ⟨b1, o1, hA1, r1⟩ := H1.out.range hst hx
        obtain ⟨b2, o2, hA2, r2⟩ := H2.out.range hst hy
        subst hA1; subst hA2
        have hx32 := H1.out.len x (List.mem_of_getElem? hx)
        have hy32 := H2.out.len y (List.mem_of_getElem? hy)
        have E1 : ∀ w, (Op.equalIn 10000 26 (.agg (bcells x)) (.agg (bcells y))).run Tryd.prog w = .ok (x == y) w := fun w => eq_bcells _ _ hx32 hy32 w
        obtain ⟨Q, hQ⟩ : ∃ Q, (x == y) = Q := ⟨_, rfl⟩
        rw [hQ] at E1
        have ix : (Tryd.prog.info? 26).map (·.size) = some (bcells x).size := by rw [bcells_size, hx32]; kernel_rfl
        have iy : (Tryd.prog.info? 26).map (·.size) = some (bcells y).size := by rw [bcells_size, hy32]; kernel_rfl
        have rx : ∀ v, (∃ z : CW (fun v => St W v I F), v = z.w) → v.rangeAt b1 (o1 + k * 32) (bcells x).toList := by rintro _ ⟨z, rfl⟩; simpa [bcells] using r1 _ _ z.ok
        have ry : ∀ v, (∃ z : CW (fun v => St W v I F), v = z.w) → v.rangeAt b2 (o2 + k * 32) (bcells y).toList := by rintro _ ⟨z, rfl⟩; simpa [bcells] using r2 _ _ z.ok
        have hki : (k : Int) < (n1 : Int) := by omega
        have hk0 : (0 : Int) ≤ (k : Int) := by omega
        have HDW := Lib.hid hst.drew1; have IX := Lib.hid ix; have IY := Lib.hid iy; have RX := Lib.hid rx; have RY := Lib.hid ry; have HQ := Lib.hid hQ; have HX := Lib.hid hx; have HY := Lib.hid hy; have HAL := Lib.hid hal
        have hne : Nonempty (CW (fun v => St W v I F)) := ⟨⟨_, HDW.out⟩⟩
        clear hst ix iy rx ry hQ r1 r2 hx32 hy32 hx hy hal hn1 hl
        generalize bcells x = X at *
        generalize bcells y = Y at *
        go_wp2_with fail
        refine wp_region_cw (fun v => St W v I F) HDW.out (by kernel_rfl) (by kernel_rfl) ?_
        repeat (first
          | (go_big_quiet_want; refine quiet_load_rowK 26 (.tmp 18) rfl (b := b1) (off := o1 + k * 32) rfl X _ RX.out Tryd.underlying26 rfl IX.out ?_; simp only [Act.put, List.setIfInBounds_toArray, List.set_cons_zero, List.set_cons_succ]; go_big_quiet_on)
          | (go_big_quiet_want; refine quiet_load_rowK 26 (.tmp 22) rfl (b := b2) (off := o2 + k * 32) rfl Y _ RY.out Tryd.underlying26 rfl IY.out ?_; simp only [Act.put, List.setIfInBounds_toArray, List.set_cons_zero, List.set_cons_succ]; go_big_quiet_on)
          | go_big_quiet_step (fail))
        refine wpQuiet_nil ?_
        rintro _ ⟨z, rfl⟩
        have hz := z.ok
        have HZ := Lib.hid hz
        clear hz HDW RX RY
        cases Q with
        | true =>
          go_wp2_with fail
          refine ⟨⟨k + 1, by go_num, by omega, fun j hj => ?_, HZ.out⟩, by simp [intOf]; omega⟩
          rcases Nat.lt_or_ge j k with h | h
          · exact HAL.out j h
          · obtain rfl : j = k := by omega
            rw [HX.out, HY.out, eq_of_beq HQ.out]
        | false =>
          go_wp2_with fail
          go_ret
          refine ⟨?_, HZ.out⟩
          have hb : B = false := by
            rw [← HB.out]
            refine decide_eq_false fun e => ?_
            have h1 := HX.out
            rw [e, HY.out] at h1
            injection h1 with h1
            have h2 := HQ.out
            rw [h1] at h2
            simp at h2
          rw [hb]
          rfl
      · obtain rfl : k = n1 := by omega
        have hb : B = true := by
          rw [← HB.out]
          refine decide_eq_true (List.ext_getElem? fun j => ?_)
          rcases Nat.lt_or_ge j k with h | h
          · exact hal j h
          · rw [List.getElem?_eq_none (by omega), List.getElem?_eq_none (by omega)]
        subst hb
        have HST := Lib.hid hst
        clear hst hal hn1 hl
        go_wp2_with fail
        go_ret
        exact ⟨rfl, HST.out⟩
  · have hb : decide (hs1 = hs2) = false := decide_eq_false fun e => hl (by rw [e])
    rw [hb]
    have hli : ¬ (hs1.length : Int) = (hs2.length : Int) := by omega
    have H := Lib.hid h
    clear h h1 h2 hb
    generalize hs1.length = n1 at *
    generalize hs2.length = n2 at *
    go_enter Tryd.func38, Tryd.ntmps38
    go_wp2_with fail
    go_ret
    exact ⟨rfl, H.out⟩

/-- Two manifests are the same. -/
def sameM (m1 m2 : Man) (hs1 hs2 : List (List UInt8)) : Bool := decide (m1.prod = m2.prod ∧ m1.ver = m2.ver ∧ m1.size = m2.size ∧ m1.chunk = m2.chunk ∧ m1.dig = m2.dig ∧ hs1 = hs2)

set_option maxRecDepth 100000 in
set_option maxHeartbeats 4000000 in
theorem msame (m1 m2 : Man) (ok1 : m1.Ok) (ok2 : m2.Ok) (hs1 hs2 : List (List UInt8)) (hn1 : m1.n = hs1.length) (hn2 : m2.n = hs2.length) (h1 : HsIn m1.A hs1 W I) (h2 : HsIn m2.A hs2 W I) (l1 : hs1.length ≤ 1000000) (l2 : hs2.length ≤ 1000000) (h : St W w I F) :
    Calls Tryd.prog 15 #[m1.val, m2.val] w fun e w' => e = .returned (.bool (sameM m1 m2 hs1 hs2)) ∧ St W w' I F := by
  have hst := (h.alloc (.cells m1.cells 29)).alloc (.cells m2.cells 29)
  rw [World.size_alloc] at hst
  have fa := man_cells ok1 hst (List.mem_cons_of_mem _ (List.mem_cons_self ..))
  have fb := man_cells ok2 hst (List.mem_cons_self ..)
  obtain ⟨a0, a1, a2, a3, a4⟩ := fa
  obtain ⟨b0, b1, b2, b3, b4⟩ := fb
  obtain ⟨B, hB⟩ : ∃ B, sameM m1 m2 hs1 hs2 = B := ⟨_, rfl⟩
  rw [hB]
  unfold sameM at hB
  have gd1 : ∀ j, j < (bcells m1.dig).size → m1.cells[4 + j]? = (bcells m1.dig)[j]? := fun j hj => by
    obtain ⟨u, hu⟩ : ∃ u, (m1.dig.map bval)[j]? = some u := ⟨_, List.getElem?_eq_getElem (by simpa [bcells] using hj)⟩
    rw [Man.gdx ok1 hu]; unfold bcells; rw [List.getElem?_toArray, hu]
  have gd2 : ∀ j, j < (bcells m2.dig).size → m2.cells[4 + j]? = (bcells m2.dig)[j]? := fun j hj => by
    obtain ⟨u, hu⟩ : ∃ u, (m2.dig.map bval)[j]? = some u := ⟨_, List.getElem?_eq_getElem (by simpa [bcells] using hj)⟩
    rw [Man.gdx ok2 hu]; unfold bcells; rw [List.getElem?_toArray, hu]
  have E1 : ∀ w, (Op.equalIn 10000 26 (.agg (bcells m1.dig)) (.agg (bcells m2.dig))).run Tryd.prog w = .ok (m1.dig == m2.dig) w := fun w => eq_bcells _ _ ok1.dig ok2.dig w
  have ix : (Tryd.prog.info? 26).map (·.size) = some (bcells m1.dig).size := by rw [bcells_size, ok1.dig]; kernel_rfl
  have iy : (Tryd.prog.info? 26).map (·.size) = some (bcells m2.dig).size := by rw [bcells_size, ok2.dig]; kernel_rfl
  have kE := fun v (hv : St W v I ((w.heap.size + 1, .cells m2.cells 29 (0, 0)) :: (w.heap.size, .cells m1.cells 29 (0, 0)) :: F)) => hs_equal m1.A m2.A m1.c m2.c hs1 hs2 h1 h2 l1 l2 hv
  have hv1 : m1.val = .agg m1.cells := rfl
  have hv2 : m2.val = .agg m2.cells := rfl
  rw [hv1, hv2]
  rw [hn1] at a4
  rw [hn2] at b4
  generalize m1.cells = mc1 at *
  generalize m2.cells = mc2 at *
  obtain ⟨p1, v1, s1, c1, d1, A1, n1, k1⟩ := m1
  obtain ⟨p2, v2, s2, c2, d2, A2, n2, k2⟩ := m2
  simp only at *
  have HST := Lib.hid hst; have HB := Lib.hid hB; have GD1 := Lib.hid gd1; have GD2 := Lib.hid gd2; have IX := Lib.hid ix; have IY := Lib.hid iy; have KE := Lib.hid kE
  clear hst hB gd1 gd2 ix iy kE h1 h2 h hv1 hv2 l1 l2 ok1 ok2 hn1 hn2
  by_cases e1 : p1 = p2
  case neg =>
    have hbe : (p1.toList == p2.toList) = false := str_ne _ _ e1
    have hb : B = false := by rw [← HB.out]; exact decide_eq_false fun e => e1 e.1
    clear E1 GD1 GD2 IX IY KE
    go_enter Tryd.func15, Tryd.ntmps15
    go_wp2_with fail
    go_ret
    exact ⟨by first | rfl | (rw [hb]; rfl), St.weaken (A := [_, _]) HST.out⟩
  subst e1
  by_cases e2 : v1 = v2
  case neg =>
    have hbe : (v1 == v2) = false := by simpa using e2
    have hb : B = false := by rw [← HB.out]; exact decide_eq_false fun e => e2 e.2.1
    clear E1 GD1 GD2 IX IY KE
    go_enter Tryd.func15, Tryd.ntmps15
    go_wp2_with fail
    go_ret
    exact ⟨by first | rfl | (rw [hb]; rfl), St.weaken (A := [_, _]) HST.out⟩
  subst e2
  by_cases e3 : s1 = s2
  case neg =>
    have hbe : (s1 == s2) = false := by simpa using e3
    have hb : B = false := by rw [← HB.out]; exact decide_eq_false fun e => e3 e.2.2.1
    clear E1 GD1 GD2 IX IY KE
    go_enter Tryd.func15, Tryd.ntmps15
    go_wp2_with fail
    go_ret
    exact ⟨by first | rfl | (rw [hb]; rfl), St.weaken (A := [_, _]) HST.out⟩
  subst e3
  by_cases e4 : c1 = c2
  case neg =>
    have hbe : (c1 == c2) = false := by simpa using e4
    have hb : B = false := by rw [← HB.out]; exact decide_eq_false fun e => e4 e.2.2.2.1
    clear E1 GD1 GD2 IX IY KE
    go_enter Tryd.func15, Tryd.ntmps15
    go_wp2_with fail
    go_ret
    exact ⟨by first | rfl | (rw [hb]; rfl), St.weaken (A := [_, _]) HST.out⟩
  subst e4
  have SX : ∀ (x : ByteArray), True := fun _ => trivial
  obtain ⟨Q, hQ⟩ : ∃ Q, (d1 == d2) = Q := ⟨_, rfl⟩
  rw [hQ] at E1
  have HQ := Lib.hid hQ
  generalize bcells d1 = X at *
  generalize bcells d2 = Y at *
  clear hQ SX
  go_enter Tryd.func15, Tryd.ntmps15
  cases Q with
  | false =>
    have hb : B = false := by
      rw [← HB.out]
      refine decide_eq_false fun e => ?_
      have h2 := HQ.out
      rw [e.2.2.2.2.1] at h2
      simp at h2
    go_wp2_with (first
      | (refine wpList_load_g (by rfl) 26 (.tmp 32) rfl (g := w.heap.size) (off := 4) rfl HST.out (cs := mc1) (t := 29) (fr := (0, 0)) (by simp) X GD1.out _ Tryd.underlying26 rfl IX.out ?_)
      | (refine wpList_load_g (by rfl) 26 (.tmp 34) rfl (g := w.heap.size + 1) (off := 4) rfl HST.out (cs := mc2) (t := 29) (fr := (0, 0)) (by simp) Y GD2.out _ Tryd.underlying26 rfl IY.out ?_))
    go_ret
    exact ⟨by first | rfl | (rw [hb]; rfl), St.weaken (A := [_, _]) HST.out⟩
  | true =>
    have hb : B = decide (hs1 = hs2) := by
      rw [← HB.out]
      have h2 := eq_of_beq HQ.out
      simp [h2]
    go_wp2_with (first
      | (refine wpList_load_g (by rfl) 26 (.tmp 32) rfl (g := w.heap.size) (off := 4) rfl HST.out (cs := mc1) (t := 29) (fr := (0, 0)) (by simp) X GD1.out _ Tryd.underlying26 rfl IX.out ?_)
      | (refine wpList_load_g (by rfl) 26 (.tmp 34) rfl (g := w.heap.size + 1) (off := 4) rfl HST.out (cs := mc2) (t := 29) (fr := (0, 0)) (by simp) Y GD2.out _ Tryd.underlying26 rfl IY.out ?_))
    refine (KE.out _ HST.out).mono ?_
    rintro e w1 ⟨rfl, h1⟩
    have H1 := Lib.hid h1
    clear h1 HST
    go_wp2_with fail
    go_ret
    exact ⟨by first | rfl | (rw [hb]; rfl), St.weaken (A := [_, _]) H1.out⟩
end
end Go.Proofs.YtfbffmckmchbbaaDoor
