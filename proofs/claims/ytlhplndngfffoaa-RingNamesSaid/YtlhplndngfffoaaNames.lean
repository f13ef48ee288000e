/- RingNames: the walk of the law. -/
import Derived.Test.YtlhplndngfffoaaAlive
import Derived.Test.YtlhplndngfffoaaClose
import Derived.Test.YtlhplndngfffoaaRingBool
namespace Go.Proofs.Ytlhplndngfffoaa
open Go.RowKit

set_option maxRecDepth 10000 in
set_option maxHeartbeats 2000000 in
theorem walk_ringNames (W : World) :
    Calls Try.prog 5 #[] W fun e w' => e = .returned (.bool true) ∧ Below W.heap.size W w' := by
  have hst0 := St.start W
  go_enter Try.func5, Try.ntmps5
  go_wp2_with fail
  refine (alive hst0).mono ?_
  rintro e w1 ⟨rfl, hst1⟩
  go_wp2_with fail
  refine (new_str' 99 hst1).mono ?_
  rintro e w2 ⟨ρ, hnew, rfl, hst2⟩
  go_wp2_with fail
  refine (new_bool' (-1) hst2).mono ?_
  rintro e w3 ⟨τ, hnewb, rfl, hst3⟩
  have ok := hnew.ok
  have okb := hnewb.ok
  obtain ⟨ρ1, e1⟩ : ∃ x, x = ρ.put (.string ⟨#[97]⟩) := ⟨_, rfl⟩
  obtain ⟨ρ2, e2⟩ : ∃ x, x = ρ1.close (.string ⟨#[]⟩) := ⟨_, rfl⟩
  obtain ⟨ρ3, e3⟩ : ∃ x, x = ρ2.recv (.string ⟨#[]⟩) := ⟨_, rfl⟩
  obtain ⟨ρ4, e4⟩ : ∃ x, x = ρ3.put (.string ⟨#[98]⟩) := ⟨_, rfl⟩
  have ok1 : ρ1.Ok := by rw [e1]; exact Ring.put_ok ok _
  have ok2 : ρ2.Ok := by rw [e2]; exact Ring.close_ok ok1 _
  have ok3 : ρ3.Ok := by rw [e3]; exact Ring.recv_ok ok2 _
  have ok4 : ρ4.Ok := by rw [e4]; exact Ring.put_ok ok3 _
  have x1 : ρ1.xs = [.string ⟨#[97]⟩] ∧ ρ1.r = ρ.r := by
    rw [e1, Ring.put_xs _ hnew.closed, Ring.put_r, hnew.xs, hnew.n]
    exact ⟨rfl, rfl⟩
  have x2 : ρ2.xs = [] ∧ ρ2.closed = true ∧ ρ2.r = ρ.r := by rw [e2]; exact ⟨rfl, rfl, x1.2⟩
  have x3 : ρ3.xs = [] ∧ ρ3.closed = true ∧ ρ3.r = ρ.r := by rw [e3, Ring.recv_xs, Ring.recv_closed, Ring.recv_r, x2.1, x2.2.1, x2.2.2]; exact ⟨rfl, rfl, rfl⟩
  have m3 : ρ3.room = 0 := by rw [Ring.room, x3.2.1]; rfl
  have n3 : ρ3.can = false := Ring.can_no (by omega)
  have a1 : ρ.can = true := by rw [Ring.can_eq _ hnew.closed, hnew.xs, hnew.n]; rfl
  have b2 : ρ2.any = false ∧ ρ2.front (.string ⟨#[]⟩) = .string ⟨#[]⟩ := by rw [Ring.any, Ring.front, x2.1]; exact ⟨rfl, rfl⟩
  have mb : τ.room = 1 := by rw [Ring.room, hnewb.closed, hnewb.xs, hnewb.n]; rfl
  have hst3' : St W w3 _ (ρ.L 89 9 ++ (τ.L 91 4 ++ [])) := St.swap hst3
  have c1 := send_str ρ ok ⟨#[97]⟩ hst3'
  rw [a1, ← e1] at c1
  have C1 := Lib.hid c1; clear c1
  go_wp2_with fail
  refine C1.out.mono ?_
  rintro e w4 ⟨rfl, hst4⟩
  have c2 := close_str ρ1 ok1 hst4
  rw [x1.1, x1.2, ← e2] at c2
  have C2 := Lib.hid c2; clear c2
  go_wp2_with fail
  refine C2.out.mono ?_
  rintro e w5 ⟨rfl, hst5⟩
  have c3 := recv_str ρ2 ok2 hst5
  rw [b2.1, b2.2, x2.2.2, ← e3] at c3
  have C3 := Lib.hid c3; clear c3
  go_wp2_with fail
  refine C3.out.mono ?_
  rintro e w6 ⟨rfl, hst6⟩
  have c4 := room_bool τ okb (St.swap hst6)
  rw [mb] at c4
  have C4 := Lib.hid c4; clear c4
  go_wp2_with fail
  refine C4.out.mono ?_
  rintro e w7 ⟨rfl, m7, rfl⟩
  have hst7 := hst6.drew m7
  generalize w6.drewN m7 = w7 at *
  have c5 := closed_str ρ3 hst7
  rw [x3.2.1, x3.2.2] at c5
  have C5 := Lib.hid c5; clear c5
  go_wp2_with fail
  refine C5.out.mono ?_
  rintro e w8 ⟨rfl, rfl⟩
  have c6 := len_str ρ3 hst7
  rw [x3.1, x3.2.2] at c6
  have C6 := Lib.hid c6; clear c6
  go_wp2_with fail
  refine C6.out.mono ?_
  rintro e w8 ⟨rfl, rfl⟩
  have c7 := room_str ρ3 ok3 hst7
  rw [m3, x3.2.2] at c7
  have C7 := Lib.hid c7; clear c7
  go_wp2_with fail
  refine C7.out.mono ?_
  rintro e w8 ⟨rfl, m8, rfl⟩
  have c8 := send_str ρ3 ok3 ⟨#[98]⟩ (hst7.drew m8)
  rw [n3, x3.2.2] at c8
  have C8 := Lib.hid c8; clear c8
  go_wp2_with fail
  refine C8.out.mono ?_
  rintro e w9 ⟨rfl, hst9⟩
  go_wp2_with fail
  refine (new_int' 17 hst9).mono ?_
  rintro e w10 ⟨υ, hnewu, rfl, hst10⟩
  have mu : υ.room = 16 := by rw [Ring.room, hnewu.closed, hnewu.xs, hnewu.n]; rfl
  have c9 := room_int υ hnewu.ok hst10
  rw [mu] at c9
  have C9 := Lib.hid c9; clear c9
  go_wp2_with fail
  refine C9.out.mono ?_
  rintro e w11 ⟨rfl, m11, rfl⟩
  go_wp2_with fail
  go_ret
  exact ⟨rfl, (hst10.drew m11).below (Le.refl _)⟩
end Go.Proofs.Ytlhplndngfffoaa
