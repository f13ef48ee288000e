import Derived.Test.YtlhplndngfffoaaRingInt
namespace Go.Proofs.Ytlhplndngfffoaa
set_option linter.unusedVariables false
set_option linter.unusedSimpArgs false
open Go.RowKit

set_option maxHeartbeats 1000000 in
theorem alive {W w : World} {I : Nat → Option Obj} {F : List (Nat × Obj)} (h : St W w I F) :
    Calls Try.prog 8 #[] w fun e w' => e = .returned (.bool true) ∧ St W w' I F := by
  go_enter Try.func8, Try.ntmps8
  go_wp2_with fail
  refine (new_int' 2 h).mono ?_
  rintro e w1 ⟨ρ, hnew, rfl, h1⟩
  have hn : ρ.n = 2 := hnew.n
  obtain ⟨ok, _, hxs, hcl⟩ := hnew
  -- the rings one after the other
  obtain ⟨ρ1, e1⟩ : ∃ x, x = ρ.put (.int .i64 5) := ⟨_, rfl⟩
  obtain ⟨ρ2, e2⟩ : ∃ x, x = ρ1.put (.int .i64 6) := ⟨_, rfl⟩
  obtain ⟨ρ3, e3⟩ : ∃ x, x = ρ2.put (.int .i64 7) := ⟨_, rfl⟩
  obtain ⟨ρ4, e4⟩ : ∃ x, x = ρ3.recv (.int .i64 0) := ⟨_, rfl⟩
  obtain ⟨ρ5, e5⟩ : ∃ x, x = ρ4.put (.int .i64 7) := ⟨_, rfl⟩
  have ok1 : ρ1.Ok := by rw [e1]; exact Ring.put_ok ok _
  have ok2 : ρ2.Ok := by rw [e2]; exact Ring.put_ok ok1 _
  have ok3 : ρ3.Ok := by rw [e3]; exact Ring.put_ok ok2 _
  have ok4 : ρ4.Ok := by rw [e4]; exact Ring.recv_ok ok3 _
  have ok5 : ρ5.Ok := by rw [e5]; exact Ring.put_ok ok4 _
  have x1 : ρ1.xs = [.int .i64 5] ∧ ρ1.n = 2 ∧ ρ1.r = ρ.r ∧ ρ1.closed = false := by rw [e1, Ring.put_xs ρ hcl, Ring.put_n, Ring.put_r, Ring.put_closed, hxs, hn, hcl]; simp
  have x2 : ρ2.xs = [.int .i64 5, .int .i64 6] ∧ ρ2.n = 2 ∧ ρ2.r = ρ.r ∧ ρ2.closed = false := by rw [e2, Ring.put_xs _ x1.2.2.2, Ring.put_n, Ring.put_r, Ring.put_closed, x1.1, x1.2.1, x1.2.2.1, x1.2.2.2]; simp
  have x3 : ρ3.xs = [.int .i64 5, .int .i64 6] ∧ ρ3.n = 2 ∧ ρ3.r = ρ.r ∧ ρ3.closed = false := by rw [e3, Ring.put_xs _ x2.2.2.2, Ring.put_n, Ring.put_r, Ring.put_closed, x2.1, x2.2.1, x2.2.2.1, x2.2.2.2]; simp
  have x4 : ρ4.xs = [.int .i64 6] ∧ ρ4.n = 2 ∧ ρ4.r = ρ.r ∧ ρ4.closed = false := by rw [e4, Ring.recv_xs, Ring.recv_n, Ring.recv_r, Ring.recv_closed, x3.1, x3.2.1, x3.2.2.1, x3.2.2.2]; simp
  have x5 : ρ5.xs = [.int .i64 6, .int .i64 7] ∧ ρ5.n = 2 ∧ ρ5.r = ρ.r ∧ ρ5.closed = false := by rw [e5, Ring.put_xs _ x4.2.2.2, Ring.put_n, Ring.put_r, Ring.put_closed, x4.1, x4.2.1, x4.2.2.1, x4.2.2.2]; simp
  have a0 : ρ.can = true := by rw [Ring.can_eq _ hcl, hxs, hn]; rfl
  have a1 : ρ1.can = true := by rw [Ring.can_eq _ x1.2.2.2, x1.1, x1.2.1]; rfl
  have a2 : ρ2.can = false := by rw [Ring.can_eq _ x2.2.2.2, x2.1, x2.2.1]; rfl
  have a4 : ρ4.can = true := by rw [Ring.can_eq _ x4.2.2.2, x4.1, x4.2.1]; rfl
  have b3 : ρ3.any = true ∧ ρ3.front (.int .i64 0) = .int .i64 5 := by rw [Ring.any, Ring.front, x3.1]; exact ⟨rfl, rfl⟩
  have l5 : ρ5.xs.length = 2 := by rw [x5.1]; rfl
  have m5 : ρ5.room = 0 := by rw [Ring.room, x5.1, x5.2.1, x5.2.2.2]; rfl
  have c1 := fun (w : World) (h : St W w I (ρ.L 77 3 ++ F)) => send_int ρ ok 5 h
  have c2 := fun (w : World) (h : St W w I (ρ1.L 77 3 ++ F)) => send_int ρ1 ok1 6 h
  have c3 := fun (w : World) (h : St W w I (ρ2.L 77 3 ++ F)) => send_int ρ2 ok2 7 h
  have c4 := fun (w : World) (h : St W w I (ρ3.L 77 3 ++ F)) => recv_int ρ3 ok3 h
  have c5 := fun (w : World) (h : St W w I (ρ4.L 77 3 ++ F)) => send_int ρ4 ok4 7 h
  have c6 := fun (w : World) (h : St W w I (ρ5.L 77 3 ++ F)) => len_int ρ5 h
  have c7 := fun (w : World) (h : St W w I (ρ5.L 77 3 ++ F)) => room_int ρ5 ok5 h
  rw [← e1, a0] at c1
  rw [← e2, a1, x1.2.2.1] at c2
  rw [← e3, a2, x2.2.2.1] at c3
  rw [← e4, b3.1, b3.2, x3.2.2.1] at c4
  rw [← e5, a4, x4.2.2.1] at c5
  rw [l5, x5.2.2.1] at c6
  rw [m5, x5.2.2.1] at c7
  have C1 := Lib.hid c1; have C2 := Lib.hid c2; have C3 := Lib.hid c3; have C4 := Lib.hid c4; have C5 := Lib.hid c5; have C6 := Lib.hid c6; have C7 := Lib.hid c7
  clear c1 c2 c3 c4 c5 c6 c7 a0 a1 a2 a4 b3 l5 m5 x1 x2 x3 x4 x5 e1 e2 e3 e4 e5 hn hxs hcl ok ok1 ok2 ok3 ok4 ok5
  go_wp2_with fail
  refine (C1.out _ h1).mono ?_
  rintro e w2 ⟨rfl, h2⟩
  go_wp2_with fail
  refine (C2.out _ h2).mono ?_
  rintro e w3 ⟨rfl, h3⟩
  go_wp2_with fail
  refine (C3.out _ h3).mono ?_
  rintro e w4 ⟨rfl, h4⟩
  go_wp2_with fail
  refine (C4.out _ h4).mono ?_
  rintro e w5 ⟨rfl, h5⟩
  go_wp2_with fail
  refine (C5.out _ h5).mono ?_
  rintro e w6 ⟨rfl, h6⟩
  go_wp2_with fail
  refine (C6.out _ h6).mono ?_
  rintro e w7 ⟨rfl, rfl⟩
  go_wp2_with fail
  refine (C7.out _ h6).mono ?_
  rintro e w7 ⟨rfl, m, rfl⟩
  go_wp2_with fail
  go_ret
  exact ⟨rfl, h6.weaken.drew _⟩
end Go.Proofs.Ytlhplndngfffoaa
