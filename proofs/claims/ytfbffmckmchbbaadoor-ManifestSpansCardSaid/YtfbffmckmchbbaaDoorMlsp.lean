/- ManifestSpans: the walk of the law. -/
import Derived.Test.YtfbffmckmchbbaaDoorMlX
import Derived.Deep.RegionHeld3
namespace Go.Proofs.YtfbffmckmchbbaaDoor
set_option linter.unusedVariables false
set_option linter.unusedSimpArgs false
open Go.RowKit Go.Lib

set_option maxRecDepth 100000 in
set_option maxHeartbeats 4000000 in
theorem walk_manifestSpans (W : World) (tabs : Tabs W) {H : Type} {enc : TypeId × Value → H} {v0 : Value} (a0 : Arg enc Tryd.prog W 29 v0) :
    Calls Tryd.prog 6 #[v0] W fun e w' => e = .returned (.bool true) ∧ Below W.heap.size W w' := by
  obtain ⟨m, hs, rfl, hm⟩ := a0.manifest
  have t := TB.start tabs
  have h0 := (St.start W).alloc (.cells m.cells 29)
  have kA := man_alive t h0
  obtain ⟨ba, hba⟩ : ∃ b, W.heap.size = b := ⟨_, rfl⟩
  rw [hba] at h0 kA
  have kG1 := fun (v : World) (hv : St W v (fun b => W.heap[b]?) [(ba, .cells m.cells 29 (0, 0))]) => great_any m hm.ok hv
  have hmi : (Tryd.prog.info? 29).map (·.size) = some m.cells.size := by rw [Man.cells_size hm.ok]; kernel_rfl
  have hval : m.val = .agg m.cells := rfl
  rw [hval] at kG1 ⊢
  have KA := Lib.hid kA; have TT := Lib.hid t; have HM := Lib.hid hm; have KG1 := Lib.hid kG1; have HMI := Lib.hid hmi
  clear kA h0 t a0 tabs kG1 hmi hval hm
  go_enter Tryd.func6, Tryd.ntmps6
  go_wp2_with fail
  refine KA.out.mono ?_
  rintro e w1 ⟨rfl, h1⟩
  have H1 := Lib.hid h1
  clear hba KA h1
  go_wp2_with (with_reducible refine wpList_load_st rfl 29 (.tmp 1) rfl (g := ba) (off := 0) rfl H1.out (cs := m.cells) (t := 29) (fr := (0, 0)) (by simp) m.cells (fun j hj => by rw [Nat.zero_add]) _ Tryd.underlying29 rfl HMI.out ?_)
  refine (KG1.out _ H1.out).mono ?_
  rintro e w2 ⟨rfl, h2⟩
  have H2 := Lib.hid h2
  have HF : Hid (Below W.heap.size W w2) := Lib.hid (h2.below (Le.refl _))
  clear h2 H1
  obtain ⟨G, hG⟩ : ∃ G, (decide (300 < m.prod.size) || decide (100 < m.n)) = G := ⟨_, rfl⟩
  rw [hG]
  cases G with
  | true =>
    clear hG
    go_wp2_with fail
    go_ret
    exact ⟨rfl, HF.out⟩
  | false =>
  have hsz : m.prod.size ≤ 300 ∧ m.n ≤ 100 := by
    simp only [Bool.or_eq_false_iff, decide_eq_false_iff_not] at hG
    omega
  have hn100 : m.n ≤ 100 := hsz.2
  have MI1 : Hid (MI m hs W (fun b => W.heap[b]?)) := Lib.hid (HM.out.mi hsz.1 hsz.2)
  have kR := right_own TT.out m HM.out.ok (by omega) H2.out
  obtain ⟨R, hR⟩ : ∃ R, rightM m = R := ⟨_, rfl⟩
  rw [hR, show m.val = .agg m.cells from rfl] at kR
  have KR := Lib.hid kR; have HR := Lib.hid hR
  clear hG hsz kR hR KG1
  go_wp2_with (refine wpList_load_g (by rfl) 29 (.tmp 1) rfl (g := ba) (off := 0) rfl H2.out (cs := m.cells) (t := 29) (fr := (0, 0)) (by simp) m.cells (fun j hj => by rw [Nat.zero_add]) _ Tryd.underlying29 rfl HMI.out ?_)
  refine KR.out.mono ?_
  rintro e w3 ⟨rfl, h3⟩
  have HF : Hid (Below W.heap.size W w3) := Lib.hid (h3.below (Le.refl _))
  have H3 := Lib.hid h3
  clear h3 H2 KR
  cases R with
  | false =>
    go_wp2_with fail
    go_ret
    exact ⟨rfl, HF.out⟩
  | true =>
  obtain ⟨r1, r2, r3, r4, r5, r6, r7, r8, r9, r10⟩ := (rightM_iff m).1 HR.out
  obtain ⟨t1, t2, t3⟩ := cntM_span m.size m.chunk r4 (by omega)
  rw [← r9] at t1 t2 t3
  have facts := fun (v : World) (hv : St W v (fun b => W.heap[b]?) [(ba, .cells m.cells 29 (0, 0))]) => man_cells HM.out.ok hv (b := ba) (by simp)
  have kS := fun (i : Int) (v : World) (hv : St W v (fun b => W.heap[b]?) [(ba, .cells m.cells 29 (0, 0))]) => span_own TT.out m HM.out.ok (by have := MI1.out.psz; omega) i hv
  have hs1 : ∀ i : Int, 0 ≤ i → i < m.n → spanM m i = (i * m.chunk, min m.chunk (m.size - i * m.chunk)) := fun i h0 h1 => spanM_yes HR.out h0 h1
  have hs0 : ∀ i : Int, (i < 0 ∨ (m.n : Int) ≤ i) → spanM m i = (0, 0) := fun i h => by
    unfold spanM
    rw [if_neg]
    rintro ⟨_, h1, h2⟩
    omega
  have kC := fun (v : World) => count_any m.size m.chunk (by omega) (by omega) v
  rw [← r9] at kC
  rw [show m.val = .agg m.cells from rfl] at kS
  have hpr : ∀ k : Nat, k < m.n → ∃ P Q : Int, spanM m k = (P, Q) ∧ P = min ((k : Int) * m.chunk) m.size ∧ 1 ≤ Q ∧ Q ≤ m.chunk ∧ ((k : Int) < m.n - 1 → Q = m.chunk) ∧ P + Q = min (((k + 1 : Nat) : Int) * m.chunk) m.size ∧ 0 ≤ P ∧ P ≤ 70000 := fun k hk => by
    have p1 : (k : Int) * m.chunk ≤ ((m.n : Int) - 1) * m.chunk := Int.mul_le_mul_of_nonneg_right (by omega) (by omega)
    have p0 : 0 ≤ (k : Int) * m.chunk := Int.mul_nonneg (by omega) (by omega)
    have p2 : (((k + 1 : Nat) : Int)) * m.chunk = k * m.chunk + m.chunk := by
      rw [show (((k + 1 : Nat) : Int)) = (k : Int) + 1 by omega, Int.add_mul, Int.one_mul]
    have p3 : (k : Int) < m.n - 1 → k * m.chunk + m.chunk ≤ ((m.n : Int) - 1) * m.chunk := fun h => by
      have := Int.mul_le_mul_of_nonneg_right (show (k : Int) + 1 ≤ m.n - 1 by omega) (show 0 ≤ m.chunk by omega)
      rw [Int.add_mul, Int.one_mul] at this
      exact this
    refine ⟨_, _, hs1 k (by omega) (by omega), ?_⟩
    rw [p2]
    generalize (k : Int) * m.chunk = P at *
    generalize ((m.n : Int) - 1) * m.chunk = T at *
    refine ⟨by omega, by omega, by omega, fun h => by have := p3 h; omega, by omega, by omega, by omega⟩
  have hend : min ((m.n : Int) * m.chunk) m.size = m.size := by omega
  have FA := Lib.hid facts; have KS := Lib.hid kS; have HS0 := Lib.hid hs0; have HPR := Lib.hid hpr; have KC := Lib.hid kC; have HEND := Lib.hid hend
  obtain ⟨d0, d1, d2, d3, d4⟩ := facts _ H3.out
  clear facts kS hs1 hs0 kC hpr hend HF t2 t3 r8 r9 HM
  go_wp2_with fail
  clear d0 d1 d2 d3 d4
  go_loopw [3, 23] (fun nx i wr => ∃ k : Nat, k ≤ m.n ∧ i = .int .i64 k ∧ nx = .int .i64 (min ((k : Int) * m.chunk) m.size) ∧ St W wr (fun b => W.heap[b]?) [(ba, .cells m.cells 29 (0, 0))]) (fun _ i _ => m.n - (intOf i).toNat)
  case atStart => exact ⟨0, by omega, rfl, by rw [show (min (((0 : Nat) : Int) * m.chunk) m.size) = 0 by simp; omega], H3.out⟩
  case round =>
    obtain ⟨k, hk, rfl, rfl, hst⟩ := hrel
    clear H3
    by_cases hkl : k < m.n
    · obtain ⟨P, Q, e1, e2, q1, q2, q3, e3, q4, q5⟩ := HPR.out k hkl
      have kS := KS.out (k : Int) _ hst
      rw [e1] at kS
      simp only at kS
      rw [← e2]
      have HST := Lib.hid hst; have K := Lib.hid kS; have HE3 := Lib.hid e3
      have hki : (k : Int) < (m.n : Int) := by omega
      clear hst kS e1 e2 e3
      go_wp2_with (with_reducible refine wpList_load_st rfl 29 (.tmp 1) rfl (g := ba) (off := 0) rfl HST.out (cs := m.cells) (t := 29) (fr := (0, 0)) (by simp) m.cells (fun j hj => by rw [Nat.zero_add]) _ Tryd.underlying29 rfl HMI.out ?_)
      refine K.out.mono ?_
      rintro e w5 ⟨rfl, h5⟩
      obtain ⟨d0, d1, d2, d3, d4⟩ := FA.out _ h5
      have H5 := Lib.hid h5
      clear h5 K HST
      by_cases hl : (k : Int) < m.n - 1
      · obtain rfl : m.chunk = Q := (q3 hl).symm
        clear q3
        go_wp2_with fail
        refine ⟨⟨k + 1, by omega, by go_num, by rw [← HE3.out], H5.out⟩, by simp [intOf]; omega⟩
      · have hl' : ((m.n : Int) - 1 ≤ (k : Int)) := by omega
        clear q3
        go_wp2_with fail
        refine ⟨⟨k + 1, by omega, by go_num, by rw [← HE3.out], H5.out⟩, by simp [intOf]; omega⟩
    · obtain rfl : k = m.n := by omega
      rw [HEND.out]
      have kS := KS.out ((m.n : Nat) : Int) _ hst
      rw [HS0.out _ (.inr (Int.le_refl _))] at kS
      simp only at kS
      obtain ⟨d0, d1, d2, d3, d4⟩ := FA.out _ hst
      have K := Lib.hid kS; have HST := Lib.hid hst
      clear kS hst
      go_wp2_with (with_reducible refine wpList_load_st rfl 29 (.tmp 1) rfl (g := ba) (off := 0) rfl HST.out (cs := m.cells) (t := 29) (fr := (0, 0)) (by simp) m.cells (fun j hj => by rw [Nat.zero_add]) _ Tryd.underlying29 rfl HMI.out ?_)
      refine K.out.mono ?_
      rintro e w5 ⟨rfl, h5⟩
      have kS := KS.out (-1) _ h5
      rw [HS0.out _ (.inl (by omega))] at kS
      simp only at kS
      have K2 := Lib.hid kS; have H5 := Lib.hid h5
      clear kS h5 K HST d0 d1 d2 d3 d4
      go_wp2_with (with_reducible refine wpList_load_st rfl 29 (.tmp 1) rfl (g := ba) (off := 0) rfl H5.out (cs := m.cells) (t := 29) (fr := (0, 0)) (by simp) m.cells (fun j hj => by rw [Nat.zero_add]) _ Tryd.underlying29 rfl HMI.out ?_)
      refine K2.out.mono ?_
      rintro e w6 ⟨rfl, h6⟩
      obtain ⟨d0, d1, d2, d3, d4⟩ := FA.out _ h6
      have HF : Hid (∀ n, Below W.heap.size W (w6.drewN n)) := Lib.hid (fun n => (h6.drew n).below (Le.refl _))
      clear h6 H5 K2
      go_wp2_with fail
      go_quiet ((go_at_call 23; exact quiet_left (KC.out _)))
      go_wp2_with fail
      go_ret
      exact ⟨by first | rfl | simp, HF.out nq⟩
end Go.Proofs.YtfbffmckmchbbaaDoor
