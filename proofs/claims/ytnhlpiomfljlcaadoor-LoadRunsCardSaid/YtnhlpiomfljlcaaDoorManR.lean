/- The document's manifest: Count, Right, Span: walks. -/
import Derived.Test.YtnhlpiomfljlcaaDoorMnA
import Derived.Test.YtnhlpiomfljlcaaDoorRfoN
namespace Go.Proofs.YtnhlpiomfljlcaaDoor
set_option linter.unusedVariables false
set_option linter.unusedSimpArgs false
open Go.RowKit Go.Lib

set_option maxRecDepth 100000 in
set_option maxHeartbeats 1000000 in
theorem rcount (size chunk : Int) (s1 : size ≤ 9223372036854775807) (c1 : chunk ≤ 9223372036854775807) (w : World) :
    Calls Tryd.prog 44 #[.int .i64 size, .int .i64 chunk] w fun e w' => e = .returned (.int .i64 (cntM size chunk)) ∧ w = w' := by
  by_cases h1 : size < 1
  · have hc : cntM size chunk = 0 := by rw [cntM, if_pos (.inl h1)]
    rw [hc]
    go_enter Tryd.func44, Tryd.ntmps44
    go_wp2_with fail
    go_ret
    exact ⟨rfl, rfl⟩
  by_cases h2 : chunk < 1
  · have hc : cntM size chunk = 0 := by rw [cntM, if_pos (.inr h2)]
    rw [hc]
    go_enter Tryd.func44, Tryd.ntmps44
    go_wp2_with fail
    go_ret
    exact ⟨rfl, rfl⟩
  have hc := cntM_ref size chunk (by omega) (by omega)
  rw [hc]
  have h3 := Int.ediv_nonneg (by omega : 0 ≤ size) (by omega : 0 ≤ chunk)
  have h4 := Int.ediv_le_self chunk (by omega : 0 ≤ size)
  have h5 : size.tdiv chunk = size / chunk := Int.tdiv_eq_ediv_of_nonneg (by omega)
  have h5' : size.tmod chunk = size % chunk := Int.tmod_eq_emod_of_nonneg (by omega)
  have h6 : ¬ chunk = 0 := by omega
  have h7 := Int.emod_nonneg size (by omega : chunk ≠ 0)
  have h8 := Int.emod_lt_of_pos size (by omega : 0 < chunk)
  have h9 : 0 < size % chunk → size / chunk < size := fun h => by
    by_cases h10 : chunk = 1
    · subst h10; rw [Int.emod_one] at h; omega
    · have := Int.emod_add_mul_ediv size chunk
      by_cases hq : size / chunk = 0
      · omega
      · have : 2 * (size / chunk) ≤ chunk * (size / chunk) := Int.mul_le_mul_of_nonneg_right (by omega) (by omega)
        omega
  generalize size / chunk = q at *
  generalize size % chunk = r at *
  clear hc
  by_cases hr : 0 < r
  · rw [if_pos hr]
    have h10 := h9 hr
    clear h9
    go_enter Tryd.func44, Tryd.ntmps44
    go_wp2_with fail
    go_ret
    exact ⟨rfl, rfl⟩
  · rw [if_neg hr]
    clear h9
    go_enter Tryd.func44, Tryd.ntmps44
    go_wp2_with fail
    go_ret
    exact ⟨rfl, rfl⟩

section
variable {W w : World} {I : Nat → Option Obj} {L : List (Nat × Obj)}
set_option maxRecDepth 100000 in
set_option maxHeartbeats 4000000 in
theorem rright13 (t : TB W I) (m : Man) (ok : m.Ok) (hs : m.prod.size ≤ 1000000000) (h : St W w I L) :
    Calls Tryd.prog 45 #[m.val] w fun e w' => e = .returned (.bool (rightM m)) ∧ St W w' I L := by
  obtain ⟨R, hR⟩ : ∃ R, rightM m = R := ⟨_, rfl⟩
  rw [hR]
  have hno : ¬ (nameOk m.prod = true ∧ 1 ≤ m.ver ∧ m.ver ≤ 281474976710656 ∧ 1 ≤ m.size ∧ m.size ≤ 65536 ∧ 64 ≤ m.chunk ∧ m.chunk ≤ 1024 ∧ m.chunk % 64 = 0 ∧ (m.n : Int) = cntM m.size m.chunk ∧ m.n ≤ 64) → R = false := fun h => by rw [← hR]; exact rightM_no m h
  have hyes : (nameOk m.prod = true ∧ 1 ≤ m.ver ∧ m.ver ≤ 281474976710656 ∧ 1 ≤ m.size ∧ m.size ≤ 65536 ∧ 64 ≤ m.chunk ∧ m.chunk ≤ 1024 ∧ m.chunk % 64 = 0 ∧ (m.n : Int) = cntM m.size m.chunk ∧ m.n ≤ 64) → R = true := fun h => by rw [← hR]; exact (rightM_iff m).2 h
  have h1 := h.alloc (.cells m.cells 53)
  have k0 : (w.alloc (.cells m.cells 53)).cell? ⟨w.heap.size, 0, none⟩ = some (.string m.prod) := cell_new rfl m.g0
  have cN := rname_any t m.prod hs h1
  have facts := fun (v : World) (hv : St W v I ((w.heap.size, .cells m.cells 53 (0, 0)) :: L)) => man_cells ok hv (List.mem_cons_self ..)
  obtain ⟨hdig, v0, v1, s0, s1, c0, c1, n1⟩ := ok
  clear hdig
  unfold Man.val
  generalize m.cells = mc at *
  generalize m.prod = prod at *
  generalize m.ver = ver at *
  generalize m.size = size at *
  generalize m.chunk = chunk at *
  generalize m.A = A at *
  generalize m.n = n at *
  generalize m.c = c at *
  have CN := Lib.hid cN; have FACTS := Lib.hid facts; have HNO := Lib.hid hno; have HYES := Lib.hid hyes
  clear cN facts hno hyes h1 h hR m hs
  go_enter Tryd.func45, Tryd.ntmps45
  go_wp2_with fail
  refine CN.out.mono ?_
  rintro e w1 ⟨rfl, h2⟩
  obtain ⟨d0, d1, d2, d3, d4⟩ := FACTS.out _ h2
  have H2 := Lib.hid (St.weaken (A := [_]) h2)
  clear h2 k0 CN FACTS t
  cases hn : nameOk prod with
  | false =>
    have hr := HNO.out (by rw [hn]; simp)
    subst hr
    go_wp2_with fail
    all_goals
      go_ret
      exact ⟨rfl, H2.out⟩
  | true =>
    rw [hn] at HNO HYES
    clear hn
    by_cases g1 : ver < 1
    · have hr := HNO.out (by omega)
      subst hr
      go_wp2_with fail
      all_goals
        go_ret
        exact ⟨rfl, H2.out⟩
    by_cases g2 : 281474976710656 < ver
    · have hr := HNO.out (by omega)
      subst hr
      go_wp2_with fail
      all_goals
        go_ret
        exact ⟨rfl, H2.out⟩
    by_cases g3 : size < 1
    · have hr := HNO.out (by omega)
      subst hr
      go_wp2_with fail
      all_goals
        go_ret
        exact ⟨rfl, H2.out⟩
    by_cases g4 : 65536 < size
    · have hr := HNO.out (by omega)
      subst hr
      go_wp2_with fail
      all_goals
        go_ret
        exact ⟨rfl, H2.out⟩
    by_cases g5 : chunk < 64
    · have hr := HNO.out (by omega)
      subst hr
      go_wp2_with fail
      all_goals
        go_ret
        exact ⟨rfl, H2.out⟩
    by_cases g6 : 1024 < chunk
    · have hr := HNO.out (by omega)
      subst hr
      go_wp2_with fail
      all_goals
        go_ret
        exact ⟨rfl, H2.out⟩
    obtain ⟨r, hr0⟩ : ∃ r, chunk % 64 = r := ⟨_, rfl⟩
    have htm : chunk.tmod 64 = r := by rw [Int.tmod_eq_emod_of_nonneg (by omega), hr0]
    by_cases g7 : r = 0
    · have cC := fun (v : World) => rcount size chunk s1 c1 v
      have hcs := cntM_span size chunk (by omega) (by omega)
      obtain ⟨K, hK⟩ : ∃ K, cntM size chunk = K := ⟨_, rfl⟩
      rw [hK] at cC hcs HNO HYES
      have CC := Lib.hid cC
      have hn0 : (0 : Int) ≤ n := by omega
      by_cases g9 : n ≤ 64
      · have g9' : decide ((n : Int) ≤ 64) = true := decide_eq_true (by omega)
        by_cases g8 : (n : Int) = K
        · have g8' : ((n : Int) == K) = true := beq_iff_eq.2 g8
          have hr := HYES.out (by refine ⟨rfl, ?_⟩; omega)
          subst hr
          subst g7
          clear HYES HNO hK g8
          go_wp2_with fail
          go_quiet ((go_at_call 44; exact quiet_left (CC.out _)))
          go_wp2_with fail
          go_ret
          exact ⟨rfl, H2.out.drew nq⟩
        · have hr := HNO.out (by omega)
          have g8' : ((n : Int) == K) = false := beq_eq_false_iff_ne.2 g8
          subst hr
          subst g7
          clear HYES HNO hK g8
          go_wp2_with fail
          go_quiet ((go_at_call 44; exact quiet_left (CC.out _)))
          go_wp2_with fail
          go_ret
          exact ⟨rfl, H2.out.drew nq⟩
      · have hr := HNO.out (by omega)
        have g9' : decide ((n : Int) ≤ 64) = false := decide_eq_false (by omega)
        subst hr
        subst g7
        clear HYES HNO hK
        go_wp2_with fail
        go_quiet ((go_at_call 44; exact quiet_left (CC.out _)))
        go_wp2_with fail
        go_ret
        exact ⟨rfl, H2.out.drew nq⟩
    · have hr := HNO.out (by omega)
      have g7' : (r != 0) = true := bne_iff_ne.2 g7
      subst hr
      clear HYES HNO hr0
      go_wp2_with fail
      all_goals
        go_ret
        exact ⟨rfl, H2.out⟩
end
end Go.Proofs.YtnhlpiomfljlcaaDoor
