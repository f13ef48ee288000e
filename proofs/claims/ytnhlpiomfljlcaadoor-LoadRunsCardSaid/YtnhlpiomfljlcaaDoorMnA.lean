/- manifest: Count, Right, Span: walks. manifest: Span: walk. -/
import Derived.Test.YtnhlpiomfljlcaaDoorManP
import Derived.Test.YtnhlpiomfljlcaaDoorGlyPA
import Derived.Test.YtnhlpiomfljlcaaDoorQtail
import Derived.Deep.RegionHeld3
namespace Go.Proofs.YtnhlpiomfljlcaaDoor
section
set_option linter.unusedVariables false
set_option linter.unusedSimpArgs false
open Go.RowKit Go.Lib

set_option maxRecDepth 100000 in
set_option maxHeartbeats 1000000 in
theorem count_any (size chunk : Int) (s1 : size ≤ 9223372036854775807) (c1 : chunk ≤ 9223372036854775807) (w : World) :
    Calls Tryd.prog 79 #[.int .i64 size, .int .i64 chunk] w fun e w' => e = .returned (.int .i64 (cntM size chunk)) ∧ w = w' := by
  by_cases h1 : size < 1
  · have hc : cntM size chunk = 0 := by rw [cntM, if_pos (.inl h1)]
    rw [hc]
    go_enter Tryd.func79, Tryd.ntmps79
    go_wp2_with fail
    go_ret
    exact ⟨rfl, rfl⟩
  by_cases h2 : chunk < 1
  · have hc : cntM size chunk = 0 := by rw [cntM, if_pos (.inr h2)]
    rw [hc]
    go_enter Tryd.func79, Tryd.ntmps79
    go_wp2_with fail
    go_ret
    exact ⟨rfl, rfl⟩
  have hc : cntM size chunk = (size - 1) / chunk + 1 := by rw [cntM, if_neg (by omega)]
  rw [hc]
  have h3 := Int.ediv_nonneg (by omega : 0 ≤ size - 1) (by omega : 0 ≤ chunk)
  have h4 := Int.ediv_le_self chunk (by omega : 0 ≤ size - 1)
  have h5 : (size - 1).tdiv chunk = (size - 1) / chunk := Int.tdiv_eq_ediv_of_nonneg (by omega)
  have h6 : ¬ chunk = 0 := by omega
  generalize (size - 1) / chunk = q at *
  clear hc
  go_enter Tryd.func79, Tryd.ntmps79
  go_wp2_with fail
  go_ret
  exact ⟨rfl, rfl⟩
section
variable {W w : World} {I : Nat → Option Obj} {L : List (Nat × Obj)}
/-- What a manifest's block holds. -/
theorem man_cells {m : Man} (ok : m.Ok) {b : Nat} {v : World} {L : List (Nat × Obj)} (h : St W v I L) (hm : (b, Obj.cells m.cells 53 (0, 0)) ∈ L) :
    v.cell? ⟨b, 0, none⟩ = some (.string m.prod) ∧ v.cell? ⟨b, 1, none⟩ = some (.int .u64 m.ver) ∧ v.cell? ⟨b, 2, none⟩ = some (.int .i64 m.size) ∧ v.cell? ⟨b, 3, none⟩ = some (.int .i64 m.chunk) ∧ v.cell? ⟨b, 36, none⟩ = some (.slice m.A m.n m.c) := by
  have hc := fun i => h.cell hm i
  exact ⟨(hc 0).trans m.g0, (hc 1).trans m.g1, (hc 2).trans m.g2, (hc 3).trans m.g3, (hc 36).trans (Man.g36 ok)⟩

set_option maxRecDepth 100000 in
set_option maxHeartbeats 4000000 in
theorem right_own (t : TB W I) (m : Man) (ok : m.Ok) (hs : m.prod.size ≤ 140737488355328) (h : St W w I L) :
    Calls Tryd.prog 64 #[m.val] w fun e w' => e = .returned (.bool (rightM m)) ∧ St W w' I L := by
  obtain ⟨R, hR⟩ : ∃ R, rightM m = R := ⟨_, rfl⟩
  rw [hR]
  have hno : ¬ (nameOk m.prod = true ∧ 1 ≤ m.ver ∧ m.ver ≤ 281474976710656 ∧ 1 ≤ m.size ∧ m.size ≤ 65536 ∧ 64 ≤ m.chunk ∧ m.chunk ≤ 1024 ∧ m.chunk % 64 = 0 ∧ (m.n : Int) = cntM m.size m.chunk ∧ m.n ≤ 64) → R = false := fun h => by rw [← hR]; exact rightM_no m h
  have hyes : (nameOk m.prod = true ∧ 1 ≤ m.ver ∧ m.ver ≤ 281474976710656 ∧ 1 ≤ m.size ∧ m.size ≤ 65536 ∧ 64 ≤ m.chunk ∧ m.chunk ≤ 1024 ∧ m.chunk % 64 = 0 ∧ (m.n : Int) = cntM m.size m.chunk ∧ m.n ≤ 64) → R = true := fun h => by rw [← hR]; exact (rightM_iff m).2 h
  have h1 := h.alloc (.cells m.cells 53)
  have k0 : (w.alloc (.cells m.cells 53)).cell? ⟨w.heap.size, 0, none⟩ = some (.string m.prod) := cell_new rfl m.g0
  have cN := name_any t m.prod hs h1
  have facts := fun (v : World) (hv : St W v I ((w.heap.size, .cells m.cells 53 (0, 0)) :: L)) => man_cells ok hv (List.mem_cons_self ..)
  obtain ⟨hdig, v0, v1, s0, s1, c0, c1, n1⟩ := ok
  clear hdig
  unfold Man.val
  generalize m.cells = mc at *
  generalize m.prod = prod at *
  generalize m.ver = ver at *
  generalize m.size = size at *
  generalize m.chunk = chunk at *
  generalize m.A = A at *
  generalize m.n = n at *
  generalize m.c = c at *
  have CN := Lib.hid cN; have FACTS := Lib.hid facts; have HNO := Lib.hid hno; have HYES := Lib.hid hyes
  clear cN facts hno hyes h1 h hR m hs
  go_enter Tryd.func64, Tryd.ntmps64
  go_wp2_with fail
  refine CN.out.mono ?_
  rintro e w1 ⟨rfl, h2⟩
  obtain ⟨d0, d1, d2, d3, d4⟩ := FACTS.out _ h2
  have H2 := Lib.hid (St.weaken (A := [_]) h2)
  clear h2 k0 CN FACTS t
  cases hn : nameOk prod with
  | false =>
    have hr := HNO.out (by rw [hn]; simp)
    subst hr
    go_wp2_with fail
    go_ret
    exact ⟨rfl, H2.out⟩
  | true =>
    rw [hn] at HNO HYES
    clear hn
    by_cases g1 : ver < 1
    · have hr := HNO.out (by omega)
      subst hr
      go_wp2_with fail
      go_ret
      exact ⟨rfl, H2.out⟩
    by_cases g2 : 281474976710656 < ver
    · have hr := HNO.out (by omega)
      subst hr
      go_wp2_with fail
      go_ret
      exact ⟨rfl, H2.out⟩
    by_cases g3 : size < 1
    · have hr := HNO.out (by omega)
      subst hr
      have g3' : decide (size < 1) = true := decide_eq_true g3
      go_wp2_with fail
      all_goals
        go_ret
        exact ⟨rfl, H2.out⟩
    by_cases g4 : 65536 < size
    · have hr := HNO.out (by omega)
      subst hr
      go_wp2_with fail
      all_goals
        go_ret
        exact ⟨rfl, H2.out⟩
    by_cases g5 : chunk < 64
    · have hr := HNO.out (by omega)
      subst hr
      go_wp2_with fail
      all_goals
        go_ret
        exact ⟨rfl, H2.out⟩
    by_cases g6 : 1024 < chunk
    · have hr := HNO.out (by omega)
      subst hr
      go_wp2_with fail
      all_goals
        go_ret
        exact ⟨rfl, H2.out⟩
    obtain ⟨r, hr0⟩ : ∃ r, chunk % 64 = r := ⟨_, rfl⟩
    have htm : chunk.tmod 64 = r := by rw [Int.tmod_eq_emod_of_nonneg (by omega), hr0]
    by_cases g7 : r = 0
    · have cC := fun (v : World) => count_any size chunk s1 c1 v
      have hcs := cntM_span size chunk (by omega) (by omega)
      obtain ⟨K, hK⟩ : ∃ K, cntM size chunk = K := ⟨_, rfl⟩
      rw [hK] at cC hcs HNO HYES
      have CC := Lib.hid cC
      have hn0 : (0 : Int) ≤ n := by omega
      by_cases g8 : (n : Int) = K
      · have g8' : ((n : Int) == K) = true := beq_iff_eq.2 g8
        by_cases g9 : n ≤ 64
        · have hr := HYES.out (by refine ⟨rfl, ?_⟩; omega)
          have g9' : (n : Int) ≤ 64 := by omega
          have g9'' : decide (K ≤ 64) = true := decide_eq_true (by omega)
          subst hr
          subst g7
          clear HYES HNO hK
          go_wp2_with fail
          go_quiet ((go_at_call 79; exact quiet_left (CC.out _)))
          go_wp2_with fail
          go_ret
          exact ⟨by rw [← g9'']; rfl, H2.out.drew nq⟩
        · have hr := HNO.out (by omega)
          have g9'' : decide (K ≤ 64) = false := decide_eq_false (by omega)
          subst hr
          subst g7
          clear HYES HNO hK
          go_wp2_with fail
          go_quiet ((go_at_call 79; exact quiet_left (CC.out _)))
          go_wp2_with fail
          go_ret
          exact ⟨by rw [← g9'']; rfl, H2.out.drew nq⟩
      · have hr := HNO.out (by omega)
        have g8' : ((n : Int) == K) = false := beq_eq_false_iff_ne.2 g8
        subst hr
        subst g7
        clear HYES HNO hK
        go_wp2_with fail
        go_quiet ((go_at_call 79; exact quiet_left (CC.out _)))
        go_wp2_with fail
        go_ret
        exact ⟨rfl, H2.out.drew nq⟩
    · have hr := HNO.out (by omega)
      have g7' : (r != 0) = true := bne_iff_ne.2 g7
      subst hr
      clear HYES HNO hr0
      go_wp2_with fail
      all_goals
        go_ret
        exact ⟨rfl, H2.out⟩
end
end

section
set_option linter.unusedVariables false
set_option linter.unusedSimpArgs false
open Go.RowKit Go.Lib

section
variable {W w : World} {I : Nat → Option Obj} {L : List (Nat × Obj)}
set_option maxRecDepth 100000 in
set_option maxHeartbeats 4000000 in
theorem span_own (t : TB W I) (m : Man) (ok : m.Ok) (hs : m.prod.size ≤ 140737488355328) (i : Int) (h : St W w I L) :
    Calls Tryd.prog 66 #[m.val, .int .i64 i] w fun e w' => e = .returned (.tuple #[.int .i64 (spanM m i).1, .int .i64 (spanM m i).2]) ∧ St W w' I L := by
  obtain ⟨P, Q, hPQ⟩ : ∃ P Q, spanM m i = (P, Q) := ⟨_, _, rfl⟩
  rw [hPQ]
  unfold spanM at hPQ
  have h1 := h.alloc (.cells m.cells 53)
  have cR := right_own t m ok hs h1
  have facts := fun (v : World) (hv : St W v I ((w.heap.size, .cells m.cells 53 (0, 0)) :: L)) => man_cells ok hv (List.mem_cons_self ..)
  have hri := rightM_iff m
  have hsz := Man.cells_size ok
  have ld : ∀ (P : Program), True := fun _ => trivial
  obtain ⟨hdig, v0, v1, s0, s1, c0, c1, n1⟩ := ok
  have hm1 := h1.rangeAt (off := 0) (List.mem_cons_self ..) (ys := m.cells.toList) (fun j hj => by simp)
  unfold Man.val at cR ⊢
  generalize rightM m = rm at *
  generalize m.prod = prod at *
  generalize m.ver = ver at *
  generalize m.size = size at *
  generalize m.chunk = chunk at *
  generalize m.n = n at *
  have CR := Lib.hid cR; have FACTS := Lib.hid facts; have HP := Lib.hid hPQ; have HRI := Lib.hid hri; have H1 := Lib.hid h1; have HM := Lib.hid hm1; have HSZ := Lib.hid hsz
  generalize m.cells = mc at *
  generalize m.A = A at *
  generalize m.c = c at *
  clear cR facts hPQ hri h1 h hdig hs t ld hm1 hsz m
  go_enter Tryd.func66, Tryd.ntmps66
  go_wp2_with (with_reducible refine wpList_load_st rfl 53 (.tmp 2) rfl (g := w.heap.size) (off := 0) rfl H1.out (List.mem_cons_self ..) mc (fun j hj => by simp) _ Tryd.underlying53 rfl (by rw [HSZ.out]; kernel_rfl) ?_)
  refine CR.out.mono ?_
  rintro e w1 ⟨rfl, h2⟩
  obtain ⟨d0, d1, d2, d3, d4⟩ := FACTS.out _ h2
  have H2 := Lib.hid (St.weaken (A := [_]) h2)
  clear h2 CR FACTS H1 HM HSZ
  have hP := HP.out
  cases hrm : rm with
  | false =>
    rw [if_neg (by rw [hrm]; simp)] at hP
    injection hP with e1 e2
    subst e1; subst e2
    clear HP HRI hrm
    go_wp2_with fail
    go_ret2
    exact ⟨rfl, H2.out⟩
  | true =>
    by_cases g1 : i < 0
    · rw [if_neg (by omega)] at hP
      injection hP with e1 e2
      subst e1; subst e2
      clear HP HRI hrm
      go_wp2_with fail
      go_ret2
      exact ⟨rfl, H2.out⟩
    by_cases g2 : (n : Int) ≤ i
    · rw [if_neg (by omega)] at hP
      injection hP with e1 e2
      subst e1; subst e2
      clear HP HRI hrm
      go_wp2_with fail
      go_ret2
      exact ⟨rfl, H2.out⟩
    rw [if_pos ⟨hrm, by omega, by omega⟩] at hP
    injection hP with e1 e2
    obtain ⟨_, _, _, r1, r2, r3, r4, _, r5, r6⟩ := HRI.out.1 hrm
    obtain ⟨t1, t2, t3⟩ := cntM_span size chunk r1 (by omega)
    rw [← r5] at t1 t2 t3
    have p0 : 0 ≤ i * chunk := Int.mul_nonneg (by omega) (by omega)
    have p1 : i * chunk ≤ 64 * 1024 := Int.mul_le_mul (by omega) (by omega) (by omega) (by omega)
    have p2 : i * chunk ≤ ((n : Int) - 1) * chunk := Int.mul_le_mul_of_nonneg_right (by omega) (by omega)
    rw [e1] at e2 p0 p1 p2
    have e3 : min chunk (size - P) = Q := e2
    have p3 : P < size := by omega
    clear HP HRI hrm t1 t2 t3 p2 e2 r5
    go_wp2_with fail
    go_quiet (fail)
    go_wp2_with fail
    go_ret2
    exact ⟨rfl, H2.out.drew nq⟩
end
end
end Go.Proofs.YtnhlpiomfljlcaaDoor
