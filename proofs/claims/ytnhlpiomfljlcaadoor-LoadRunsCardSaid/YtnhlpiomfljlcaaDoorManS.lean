/- The document's manifest: Span: walk. -/
import Derived.Test.YtnhlpiomfljlcaaDoorManR
namespace Go.Proofs.YtnhlpiomfljlcaaDoor
set_option linter.unusedVariables false
set_option linter.unusedSimpArgs false
open Go.RowKit Go.Lib

section
variable {W w : World} {I : Nat → Option Obj} {L : List (Nat × Obj)}
set_option maxRecDepth 100000 in
set_option maxHeartbeats 4000000 in
theorem rspan (t : TB W I) (m : Man) (ok : m.Ok) (hs : m.prod.size ≤ 1000000000) (i : Int) (h : St W w I L) :
    Calls Tryd.prog 52 #[m.val, .int .i64 i] w fun e w' => e = .returned (.tuple #[.int .i64 (spanM m i).1, .int .i64 (spanM m i).2]) ∧ St W w' I L := by
  obtain ⟨P, Q, hPQ⟩ : ∃ P Q, spanM m i = (P, Q) := ⟨_, _, rfl⟩
  rw [hPQ]
  unfold spanM at hPQ
  have h1 := h.alloc (.cells m.cells 53)
  have cR := rright13 t m ok hs h1
  have facts := fun (v : World) (hv : St W v I ((w.heap.size, .cells m.cells 53 (0, 0)) :: L)) => man_cells ok hv (List.mem_cons_self ..)
  have hri := rightM_iff m
  have hsz := Man.cells_size ok
  have ld : ∀ (P : Program), True := fun _ => trivial
  obtain ⟨hdig, v0, v1, s0, s1, c0, c1, n1⟩ := ok
  have hm1 := h1.rangeAt (off := 0) (List.mem_cons_self ..) (ys := m.cells.toList) (fun j hj => by simp)
  unfold Man.val at cR ⊢
  generalize rightM m = rm at *
  generalize m.prod = prod at *
  generalize m.ver = ver at *
  generalize m.size = size at *
  generalize m.chunk = chunk at *
  generalize m.n = n at *
  have CR := Lib.hid cR; have FACTS := Lib.hid facts; have HP := Lib.hid hPQ; have HRI := Lib.hid hri; have H1 := Lib.hid h1; have HM := Lib.hid hm1; have HSZ := Lib.hid hsz
  generalize m.cells = mc at *
  generalize m.A = A at *
  generalize m.c = c at *
  clear cR facts hPQ hri h1 h hdig hs t ld hm1 hsz m
  go_enter Tryd.func52, Tryd.ntmps52
  go_wp2_with (with_reducible refine wpList_load_st rfl 53 (.tmp 2) rfl (g := w.heap.size) (off := 0) rfl H1.out (List.mem_cons_self ..) mc (fun j hj => by simp) _ Tryd.underlying53 rfl (by rw [HSZ.out]; kernel_rfl) ?_)
  refine CR.out.mono ?_
  rintro e w1 ⟨rfl, h2⟩
  obtain ⟨d0, d1, d2, d3, d4⟩ := FACTS.out _ h2
  have H2 := Lib.hid (St.weaken (A := [_]) h2)
  clear h2 CR FACTS H1 HM HSZ
  have hP := HP.out
  cases hrm : rm with
  | false =>
    rw [if_neg (by rw [hrm]; simp)] at hP
    injection hP with e1 e2
    subst e1; subst e2
    clear HP HRI hrm
    go_wp2_with fail
    go_ret2
    exact ⟨rfl, H2.out⟩
  | true =>
    by_cases g1 : i < 0
    · rw [if_neg (by omega)] at hP
      injection hP with e1 e2
      subst e1; subst e2
      clear HP HRI hrm
      go_wp2_with fail
      go_ret2
      exact ⟨rfl, H2.out⟩
    by_cases g2 : (n : Int) ≤ i
    · rw [if_neg (by omega)] at hP
      injection hP with e1 e2
      subst e1; subst e2
      clear HP HRI hrm
      go_wp2_with fail
      go_ret2
      exact ⟨rfl, H2.out⟩
    rw [if_pos ⟨hrm, by omega, by omega⟩] at hP
    injection hP with e1 e2
    obtain ⟨_, _, _, r1, r2, r3, r4, _, r5, r6⟩ := HRI.out.1 hrm
    obtain ⟨t1, t2, t3⟩ := cntM_span size chunk r1 (by omega)
    rw [← r5] at t1 t2 t3
    have p0 : 0 ≤ i * chunk := Int.mul_nonneg (by omega) (by omega)
    have p1 : i * chunk ≤ 64 * 1024 := Int.mul_le_mul (by omega) (by omega) (by omega) (by omega)
    have p2 : i * chunk ≤ ((n : Int) - 1) * chunk := Int.mul_le_mul_of_nonneg_right (by omega) (by omega)
    rw [e1] at e2 p0 p1 p2
    have e3 : min chunk (size - P) = Q := e2
    have p3 : P < size := by omega
    have t2' := t2
    have t3' : size ≤ (n : Int) * chunk := t3
    have t3' : size ≤ ((n : Int) - 1) * chunk + chunk := by rw [Int.sub_mul, Int.one_mul]; omega
    clear HP HRI hrm t1 t2 t3 p2 e2 r5
    by_cases g3 : i = (n : Int) - 1
    · have e4 : size - P = Q := by rw [← e3, Int.min_eq_right (by rw [← g3] at t3'; omega)]
      have g3' : (i == (n : Int) - 1) = true := beq_iff_eq.2 g3
      clear e3 t3' t2' g3
      go_wp2_with fail
      go_quiet (fail)
      go_wp2_with fail
      go_ret2
      exact ⟨rfl, H2.out.drew nq⟩
    · have e4 : chunk = Q := by
        rw [← e3, Int.min_eq_left]
        have : (i + 1) * chunk ≤ ((n : Int) - 1) * chunk := Int.mul_le_mul_of_nonneg_right (by omega) (by omega)
        rw [Int.add_mul, Int.one_mul] at this
        omega
      have g3' : (i == (n : Int) - 1) = false := beq_eq_false_iff_ne.2 g3
      clear e3 t3' t2'
      subst e4
      go_wp2_with fail
      go_quiet (fail)
      go_wp2_with fail
      go_ret2
      exact ⟨rfl, H2.out.drew nq⟩
end
end Go.Proofs.YtnhlpiomfljlcaaDoor
