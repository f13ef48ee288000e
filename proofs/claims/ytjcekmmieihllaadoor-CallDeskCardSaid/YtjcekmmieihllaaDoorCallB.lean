/- The document's Right for calls: walk. -/
import Derived.Test.YtjcekmmieihllaaDoorCallA
namespace Go.Proofs.YtjcekmmieihllaaDoor
set_option linter.unusedVariables false
set_option linter.unusedSimpArgs false
set_option linter.unnecessarySimpa false
open Go.RowKit Go.Lib

section
variable {W w : World} {I : Nat → Option Obj} {F : List (Nat × Obj)}
theorem emp_isEmpty (x : ByteArray) : x.toList.isEmpty = emp x := by
  unfold emp
  rw [ByteArray.toList_eq, ByteArray.toList_eq]
  cases h : x.data.toList with
  | nil => rfl
  | cons a l => rfl
set_option maxRecDepth 100000 in
set_option maxHeartbeats 16000000 in
theorem cref_right (t : TB W I) (t4 : Tab4 W) (c : Cl) (ok : c.Ok) (h : St W w I F) :
    Calls Tryd.prog 11 #[c.val] w fun e w' => e = .returned (.bool (rightC c)) ∧ St W w' I F := by
  have h0 := h.alloc (.cells c.cells 23)
  have kN := fun (v : World) (F : List (Nat × Obj)) (hv : St W v I F) => rname_any t t4 c.name ok.n1 hv
  have p0 := h0.clf (b := w.heap.size) (c := c) (by simp)
  have rk := right_kind c
  have n1 := emp_isEmpty c.name
  have n2 := emp.eq_1 c.name
  unfold Cl.val
  obtain ⟨R, hR⟩ : ∃ R, rightC c = R := ⟨_, rfl⟩
  rw [hR] at rk ⊢
  generalize hC : c.cells = C at *
  generalize c.client = cl at *
  generalize c.slot = sl at *
  generalize c.job = jo at *
  generalize emp c.name = E at *
  generalize c.name = na at *
  generalize c.kind = kd at *
  have KN := Lib.hid kN; have RK := Lib.hid rk; have H0 := Lib.hid h0; have N2 := Lib.hid n2
  obtain ⟨p0, p1, p2, p3, p4⟩ := p0
  clear kN rk h0 h t t4 ok hR hC n2
  by_cases c0 : 0 ≤ cl
  · by_cases c1 : cl ≤ 7
    · by_cases k1 : kd = 1
      · subst k1
        by_cases sl0 : sl = 0
        · subst sl0
          by_cases jo0 : jo = 0
          · subst jo0
            by_cases hB : nameOk na = true
            · rw [hB] at KN
              have hR2 : R = true := by rw [RK.out 1 rfl, if_pos (by decide)]; simp [*]
              clear RK
              subst hR2
              go_enter Tryd.func11, Tryd.ntmps11
              go_wp2_with fail
              refine (KN.out _ _ H0.out).mono ?_
              rintro e w5 ⟨rfl, h5⟩
              have H5 := Lib.hid h5
              clear h5 H0 KN
              go_wp2_with fail
              go_ret
              exact ⟨rfl, St.weaken (A := [_]) H5.out⟩
            · have hB2 : nameOk na = false := by simpa using hB
              rw [hB2] at KN
              have hR2 : R = false := by rw [RK.out 1 rfl, if_pos (by decide)]; simp [hB2]
              clear RK
              subst hR2
              go_enter Tryd.func11, Tryd.ntmps11
              go_wp2_with fail
              refine (KN.out _ _ H0.out).mono ?_
              rintro e w5 ⟨rfl, h5⟩
              have H5 := Lib.hid h5
              clear h5 H0 KN
              go_wp2_with fail
              go_ret
              exact ⟨rfl, St.weaken (A := [_]) H5.out⟩
          · have qj : (jo == 0) = false := beq_eq_false_iff_ne.2 jo0
            have hR2 : R = false := by rw [RK.out 1 rfl, if_pos (by decide)]; simp [qj]
            clear RK
            subst hR2
            go_enter Tryd.func11, Tryd.ntmps11
            go_wp2_with fail
            go_ret
            exact ⟨by first | rfl | (simp [*]), St.weaken (A := [_]) H0.out⟩
        · have qs : (sl == 0) = false := beq_eq_false_iff_ne.2 sl0
          have hR2 : R = false := by rw [RK.out 1 rfl, if_pos (by decide)]; simp [qs]
          clear RK
          subst hR2
          go_enter Tryd.func11, Tryd.ntmps11
          go_wp2_with fail
          go_ret
          exact ⟨by first | rfl | (simp [*]), St.weaken (A := [_]) H0.out⟩
      by_cases k2 : kd = 2
      · subst k2
        by_cases sl0 : sl = 0
        · subst sl0
          by_cases hE : E = true
          · subst hE
            by_cases j0 : 0 ≤ jo
            · by_cases j1 : jo ≤ 1073741824
              · have hR2 : R = true := by rw [RK.out 2 rfl, if_neg (by decide), if_pos (by decide)]; simp [*]
                clear RK
                subst hR2
                go_enter Tryd.func11, Tryd.ntmps11
                go_wp2_with fail
                go_ret
                exact ⟨by first | rfl | (simp [*]), St.weaken (A := [_]) H0.out⟩
              · have hR2 : R = false := by rw [RK.out 2 rfl, if_neg (by decide), if_pos (by decide)]; simp [decide_eq_false j1]
                clear RK
                subst hR2
                go_enter Tryd.func11, Tryd.ntmps11
                go_wp2_with fail
                go_ret
                exact ⟨by first | rfl | (simp [*]), St.weaken (A := [_]) H0.out⟩
            · have hR2 : R = false := by rw [RK.out 2 rfl, if_neg (by decide), if_pos (by decide)]; simp [decide_eq_false j0]
              clear RK
              subst hR2
              go_enter Tryd.func11, Tryd.ntmps11
              go_wp2_with fail
              go_ret
              exact ⟨by first | rfl | (simp [*]), St.weaken (A := [_]) H0.out⟩
          · have hE2 : E = false := by simpa using hE
            subst hE2
            have hR2 : R = false := by rw [RK.out 2 rfl, if_neg (by decide), if_pos (by decide)]; simp
            clear RK
            subst hR2
            go_enter Tryd.func11, Tryd.ntmps11
            go_wp2_with fail
            go_ret
            exact ⟨by first | rfl | (simp [*]), St.weaken (A := [_]) H0.out⟩
        · have qs : (sl == 0) = false := beq_eq_false_iff_ne.2 sl0
          have hR2 : R = false := by rw [RK.out 2 rfl, if_neg (by decide), if_pos (by decide)]; simp [qs]
          clear RK
          subst hR2
          go_enter Tryd.func11, Tryd.ntmps11
          go_wp2_with fail
          go_ret
          exact ⟨by first | rfl | (simp [*]), St.weaken (A := [_]) H0.out⟩
      by_cases k3 : kd = 3
      · subst k3
        by_cases sl0 : sl = 0
        · subst sl0
          by_cases jo0 : jo = 0
          · subst jo0
            by_cases hE : E = true
            · subst hE
              have hR2 : R = true := by rw [RK.out 3 rfl, if_neg (by decide), if_neg (by decide), if_pos (by decide)]; simp [*]
              clear RK
              subst hR2
              go_enter Tryd.func11, Tryd.ntmps11
              go_wp2_with fail
              go_ret
              exact ⟨by first | rfl | (simp [*]), St.weaken (A := [_]) H0.out⟩
            · have hE2 : E = false := by simpa using hE
              subst hE2
              have hR2 : R = false := by rw [RK.out 3 rfl, if_neg (by decide), if_neg (by decide), if_pos (by decide)]; simp
              clear RK
              subst hR2
              go_enter Tryd.func11, Tryd.ntmps11
              go_wp2_with fail
              go_ret
              exact ⟨by first | rfl | (simp [*]), St.weaken (A := [_]) H0.out⟩
          · have qj : (jo == 0) = false := beq_eq_false_iff_ne.2 jo0
            have hR2 : R = false := by rw [RK.out 3 rfl, if_neg (by decide), if_neg (by decide), if_pos (by decide)]; simp [qj]
            clear RK
            subst hR2
            go_enter Tryd.func11, Tryd.ntmps11
            go_wp2_with fail
            go_ret
            exact ⟨by first | rfl | (simp [*]), St.weaken (A := [_]) H0.out⟩
        · have qs : (sl == 0) = false := beq_eq_false_iff_ne.2 sl0
          have hR2 : R = false := by rw [RK.out 3 rfl, if_neg (by decide), if_neg (by decide), if_pos (by decide)]; simp [qs]
          clear RK
          subst hR2
          go_enter Tryd.func11, Tryd.ntmps11
          go_wp2_with fail
          go_ret
          exact ⟨by first | rfl | (simp [*]), St.weaken (A := [_]) H0.out⟩
      by_cases k6 : kd = 6
      · subst k6
        by_cases sl0 : sl = 0
        · subst sl0
          by_cases jo0 : jo = 0
          · subst jo0
            by_cases hE : E = true
            · subst hE
              have hR2 : R = true := by rw [RK.out 6 rfl, if_neg (by decide), if_neg (by decide), if_pos (by decide)]; simp [*]
              clear RK
              subst hR2
              go_enter Tryd.func11, Tryd.ntmps11
              go_wp2_with fail
              go_ret
              exact ⟨by first | rfl | (simp [*]), St.weaken (A := [_]) H0.out⟩
            · have hE2 : E = false := by simpa using hE
              subst hE2
              have hR2 : R = false := by rw [RK.out 6 rfl, if_neg (by decide), if_neg (by decide), if_pos (by decide)]; simp
              clear RK
              subst hR2
              go_enter Tryd.func11, Tryd.ntmps11
              go_wp2_with fail
              go_ret
              exact ⟨by first | rfl | (simp [*]), St.weaken (A := [_]) H0.out⟩
          · have qj : (jo == 0) = false := beq_eq_false_iff_ne.2 jo0
            have hR2 : R = false := by rw [RK.out 6 rfl, if_neg (by decide), if_neg (by decide), if_pos (by decide)]; simp [qj]
            clear RK
            subst hR2
            go_enter Tryd.func11, Tryd.ntmps11
            go_wp2_with fail
            go_ret
            exact ⟨by first | rfl | (simp [*]), St.weaken (A := [_]) H0.out⟩
        · have qs : (sl == 0) = false := beq_eq_false_iff_ne.2 sl0
          have hR2 : R = false := by rw [RK.out 6 rfl, if_neg (by decide), if_neg (by decide), if_pos (by decide)]; simp [qs]
          clear RK
          subst hR2
          go_enter Tryd.func11, Tryd.ntmps11
          go_wp2_with fail
          go_ret
          exact ⟨by first | rfl | (simp [*]), St.weaken (A := [_]) H0.out⟩
      by_cases k4 : kd = 4
      · subst k4
        by_cases jo0 : jo = 0
        · subst jo0
          by_cases hE : E = true
          · subst hE
            by_cases s0 : 0 ≤ sl
            · by_cases s1 : sl ≤ 255
              · have hR2 : R = true := by rw [RK.out 4 rfl, if_neg (by decide), if_neg (by decide), if_neg (by decide), if_pos (by decide)]; simp [*]
                clear RK
                subst hR2
                go_enter Tryd.func11, Tryd.ntmps11
                go_wp2_with fail
                go_ret
                exact ⟨by first | rfl | (simp [*]), St.weaken (A := [_]) H0.out⟩
              · have hR2 : R = false := by rw [RK.out 4 rfl, if_neg (by decide), if_neg (by decide), if_neg (by decide), if_pos (by decide)]; simp [decide_eq_false s1]
                clear RK
                subst hR2
                go_enter Tryd.func11, Tryd.ntmps11
                go_wp2_with fail
                go_ret
                exact ⟨by first | rfl | (simp [*]), St.weaken (A := [_]) H0.out⟩
            · have hR2 : R = false := by rw [RK.out 4 rfl, if_neg (by decide), if_neg (by decide), if_neg (by decide), if_pos (by decide)]; simp [decide_eq_false s0]
              clear RK
              subst hR2
              go_enter Tryd.func11, Tryd.ntmps11
              go_wp2_with fail
              go_ret
              exact ⟨by first | rfl | (simp [*]), St.weaken (A := [_]) H0.out⟩
          · have hE2 : E = false := by simpa using hE
            subst hE2
            have hR2 : R = false := by rw [RK.out 4 rfl, if_neg (by decide), if_neg (by decide), if_neg (by decide), if_pos (by decide)]; simp
            clear RK
            subst hR2
            go_enter Tryd.func11, Tryd.ntmps11
            go_wp2_with fail
            go_ret
            exact ⟨by first | rfl | (simp [*]), St.weaken (A := [_]) H0.out⟩
        · have qj : (jo == 0) = false := beq_eq_false_iff_ne.2 jo0
          have hR2 : R = false := by rw [RK.out 4 rfl, if_neg (by decide), if_neg (by decide), if_neg (by decide), if_pos (by decide)]; simp [qj]
          clear RK
          subst hR2
          go_enter Tryd.func11, Tryd.ntmps11
          go_wp2_with fail
          go_ret
          exact ⟨by first | rfl | (simp [*]), St.weaken (A := [_]) H0.out⟩
      by_cases k5 : kd = 5
      · subst k5
        by_cases jo0 : jo = 0
        · subst jo0
          by_cases hE : E = true
          · subst hE
            by_cases s0 : 0 ≤ sl
            · by_cases s1 : sl ≤ 255
              · have hR2 : R = true := by rw [RK.out 5 rfl, if_neg (by decide), if_neg (by decide), if_neg (by decide), if_pos (by decide)]; simp [*]
                clear RK
                subst hR2
                go_enter Tryd.func11, Tryd.ntmps11
                go_wp2_with fail
                go_ret
                exact ⟨by first | rfl | (simp [*]), St.weaken (A := [_]) H0.out⟩
              · have hR2 : R = false := by rw [RK.out 5 rfl, if_neg (by decide), if_neg (by decide), if_neg (by decide), if_pos (by decide)]; simp [decide_eq_false s1]
                clear RK
                subst hR2
                go_enter Tryd.func11, Tryd.ntmps11
                go_wp2_with fail
                go_ret
                exact ⟨by first | rfl | (simp [*]), St.weaken (A := [_]) H0.out⟩
            · have hR2 : R = false := by rw [RK.out 5 rfl, if_neg (by decide), if_neg (by decide), if_neg (by decide), if_pos (by decide)]; simp [decide_eq_false s0]
              clear RK
              subst hR2
              go_enter Tryd.func11, Tryd.ntmps11
              go_wp2_with fail
              go_ret
              exact ⟨by first | rfl | (simp [*]), St.weaken (A := [_]) H0.out⟩
          · have hE2 : E = false := by simpa using hE
            subst hE2
            have hR2 : R = false := by rw [RK.out 5 rfl, if_neg (by decide), if_neg (by decide), if_neg (by decide), if_pos (by decide)]; simp
            clear RK
            subst hR2
            go_enter Tryd.func11, Tryd.ntmps11
            go_wp2_with fail
            go_ret
            exact ⟨by first | rfl | (simp [*]), St.weaken (A := [_]) H0.out⟩
        · have qj : (jo == 0) = false := beq_eq_false_iff_ne.2 jo0
          have hR2 : R = false := by rw [RK.out 5 rfl, if_neg (by decide), if_neg (by decide), if_neg (by decide), if_pos (by decide)]; simp [qj]
          clear RK
          subst hR2
          go_enter Tryd.func11, Tryd.ntmps11
          go_wp2_with fail
          go_ret
          exact ⟨by first | rfl | (simp [*]), St.weaken (A := [_]) H0.out⟩
      have hR : R = false := by
        rw [RK.out kd rfl, if_neg k1, if_neg k2, if_neg (by omega), if_neg (by omega)]
        simp
      subst hR
      clear RK
      go_enter Tryd.func11, Tryd.ntmps11
      go_wp2_with fail
      go_ret
      exact ⟨by first | rfl | (simp [*]), St.weaken (A := [_]) H0.out⟩
    · have hR : R = false := by rw [RK.out kd rfl]; simp [decide_eq_false c1]
      subst hR
      clear RK
      go_enter Tryd.func11, Tryd.ntmps11
      go_wp2_with fail
      go_ret
      exact ⟨by first | rfl | (simp [*]), St.weaken (A := [_]) H0.out⟩
  · have hR : R = false := by rw [RK.out kd rfl]; simp [decide_eq_false c0]
    subst hR
    clear RK
    go_enter Tryd.func11, Tryd.ntmps11
    go_wp2_with fail
    go_ret
    exact ⟨by first | rfl | (simp [*]), St.weaken (A := [_]) H0.out⟩

end
end Go.Proofs.YtjcekmmieihllaaDoor
