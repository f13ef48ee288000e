/- RingOrder: the walk of the law. -/
import Derived.Test.YtlhplndngfffoaaAlive
import Derived.Test.YtlhplndngfffoaaArgs
namespace Go.Proofs.Ytlhplndngfffoaa
open Go.RowKit

structure Inv (ρ : Ring) (r n s g : Nat) : Prop where
  ok : ρ.Ok
  r : ρ.r = r
  n : ρ.n = n
  closed : ρ.closed = false
  gs : g ≤ s
  xs : ρ.xs = (List.range' g (s - g)).map fun (j : Nat) => Value.int .i64 (1000 + (j : Int))

theorem Inv.len {ρ : Ring} {r n s g : Nat} (h : Inv ρ r n s g) : ρ.xs.length = s - g := by rw [h.xs]; simp
theorem Inv.le {ρ : Ring} {r n s g : Nat} (h : Inv ρ r n s g) : s - g ≤ n := by have := h.ok.many; rw [h.len, h.n] at this; exact this
theorem Inv.leni {ρ : Ring} {r n s g : Nat} (h : Inv ρ r n s g) : (ρ.xs.length : Int) = (s : Int) - g := by have := h.gs; rw [h.len]; omega
theorem Inv.roomi {ρ : Ring} {r n s g : Nat} (h : Inv ρ r n s g) : (ρ.room : Int) = (n : Int) - ((s : Int) - g) := by
  have := h.gs
  have := h.le
  rw [Ring.room, h.closed, h.len, h.n]
  simp
  omega
theorem Inv.can {ρ : Ring} {r n s g : Nat} (h : Inv ρ r n s g) : ρ.can = decide (s - g < n) := by rw [Ring.can_eq _ h.closed, h.len, h.n]
theorem Inv.send_yes {ρ : Ring} {r n s g : Nat} (h : Inv ρ r n s g) (hl : s - g < n) : Inv (ρ.put (.int .i64 (1000 + (s : Int)))) r n (s + 1) g := by
  have hg := h.gs
  refine ⟨Ring.put_ok h.ok _, by rw [Ring.put_r, h.r], by rw [Ring.put_n, h.n], by rw [Ring.put_closed, h.closed], by omega, ?_⟩
  rw [Ring.put_xs _ h.closed, h.len, h.n, if_pos hl, h.xs, show s + 1 - g = (s - g) + 1 by omega, List.range'_concat, List.map_append]
  simp
  omega
theorem Inv.send_no {ρ : Ring} {r n s g : Nat} (h : Inv ρ r n s g) (hl : ¬ s - g < n) (v : Value) : ρ.put v = ρ := by
  apply Ring.put_no
  rw [Ring.room, h.closed, h.len, h.n]
  simp
  omega
theorem Inv.recv_yes {ρ : Ring} {r n s g : Nat} (h : Inv ρ r n s g) (hl : g < s) (z : Value) : Inv (ρ.recv z) r n s (g + 1) := by
  refine ⟨Ring.recv_ok h.ok _, by rw [Ring.recv_r, h.r], by rw [Ring.recv_n, h.n], by rw [Ring.recv_closed, h.closed], by omega, ?_⟩
  rw [Ring.recv_xs, h.xs, show s - g = (s - (g + 1)) + 1 by omega, List.range'_succ]
  simp
theorem Inv.nil {ρ : Ring} {r n s g : Nat} (h : Inv ρ r n s g) (hl : ¬ g < s) : ρ.xs = [] := by rw [h.xs, show s - g = 0 by omega]; rfl
theorem Inv.recv_no {ρ : Ring} {r n s g : Nat} (h : Inv ρ r n s g) (hl : ¬ g < s) (z : Value) : ρ.recv z = ρ := by rw [Ring.recv, if_pos (h.nil hl)]
theorem Inv.any_no {ρ : Ring} {r n s g : Nat} (h : Inv ρ r n s g) (hl : ¬ g < s) (z : Value) : ρ.any = false ∧ ρ.front z = z := by rw [Ring.any, Ring.front, h.nil hl]; exact ⟨rfl, rfl⟩
theorem Inv.any_yes {ρ : Ring} {r n s g : Nat} (h : Inv ρ r n s g) (hl : g < s) (z : Value) : ρ.any = true ∧ ρ.front z = .int .i64 (1000 + (g : Int)) := by
  rw [Ring.any, Ring.front, h.xs, show s - g = (s - g - 1) + 1 by omega, List.range'_succ]
  exact ⟨rfl, rfl⟩

theorem Inv.new {ρ : Ring} {n : Nat} (h : ρ.New n) : Inv ρ ρ.r n 0 0 := ⟨h.ok, rfl, h.n, h.closed, by omega, by rw [h.xs]; rfl⟩

section
variable {W : World} {I : Nat → Option Obj} {F : List (Nat × Obj)} {ρ : Ring} {r n s g : Nat} {w : World}
theorem o_len (h : Inv ρ r n s g) (hs : St W w I (ρ.L 77 3 ++ F)) : Calls Try.prog 13 #[.pointer (some ⟨r, 0, none⟩)] w fun e w' => e = .returned (.int .i64 ((s : Int) - g)) ∧ w = w' := by
  have := len_int ρ hs
  rwa [h.r, h.leni] at this
theorem o_room (h : Inv ρ r n s g) (hs : St W w I (ρ.L 77 3 ++ F)) : Calls Try.prog 10 #[.pointer (some ⟨r, 0, none⟩)] w fun e w' => e = .returned (.int .i64 ((n : Int) - ((s : Int) - g))) ∧ ∃ m, w' = w.drewN m := by
  have := room_int ρ h.ok hs
  rwa [h.r, h.roomi] at this
theorem o_send_yes (h : Inv ρ r n s g) (hl : s - g < n) (hs : St W w I (ρ.L 77 3 ++ F)) : Calls Try.prog 11 #[.pointer (some ⟨r, 0, none⟩), .int .i64 (1000 + (s : Int))] w fun e w' => e = .returned (.bool true) ∧ ∃ ρ', Inv ρ' r n (s + 1) g ∧ St W w' I (ρ'.L 77 3 ++ F) := by
  have := send_int ρ h.ok (1000 + (s : Int)) hs
  rw [h.r, h.can] at this
  simp only [hl, decide_true] at this
  exact this.mono fun e w' ⟨he, hst⟩ => ⟨he, _, h.send_yes hl, hst⟩
theorem o_send_no (h : Inv ρ r n s g) (hl : ¬ s - g < n) (hs : St W w I (ρ.L 77 3 ++ F)) : Calls Try.prog 11 #[.pointer (some ⟨r, 0, none⟩), .int .i64 (1000 + (s : Int))] w fun e w' => e = .returned (.bool false) ∧ ∃ ρ', Inv ρ' r n s g ∧ St W w' I (ρ'.L 77 3 ++ F) := by
  have := send_int ρ h.ok (1000 + (s : Int)) hs
  rw [h.r, h.can, h.send_no hl] at this
  simp only [hl, decide_false] at this
  exact this.mono fun e w' ⟨he, hst⟩ => ⟨he, _, h, hst⟩
theorem o_recv_yes (h : Inv ρ r n s g) (hl : g < s) (hs : St W w I (ρ.L 77 3 ++ F)) : Calls Try.prog 12 #[.pointer (some ⟨r, 0, none⟩)] w fun e w' => e = .returned (.tuple #[.int .i64 (1000 + (g : Int)), .bool true]) ∧ ∃ ρ', Inv ρ' r n s (g + 1) ∧ St W w' I (ρ'.L 77 3 ++ F) := by
  have := recv_int ρ h.ok hs
  rw [h.r, (h.any_yes hl (.int .i64 0)).1, (h.any_yes hl (.int .i64 0)).2] at this
  exact this.mono fun e w' ⟨he, hst⟩ => ⟨he, _, h.recv_yes hl _, hst⟩
theorem o_recv_no (h : Inv ρ r n s g) (hl : ¬ g < s) (hs : St W w I (ρ.L 77 3 ++ F)) : Calls Try.prog 12 #[.pointer (some ⟨r, 0, none⟩)] w fun e w' => e = .returned (.tuple #[.int .i64 0, .bool false]) ∧ ∃ ρ', Inv ρ' r n s g ∧ St W w' I (ρ'.L 77 3 ++ F) := by
  have := recv_int ρ h.ok hs
  rw [h.r, (h.any_no hl (.int .i64 0)).1, (h.any_no hl (.int .i64 0)).2, h.recv_no hl] at this
  exact this.mono fun e w' ⟨he, hst⟩ => ⟨he, _, h, hst⟩
end

set_option maxRecDepth 10000 in
set_option maxHeartbeats 2000000 in
theorem walk_ringOrder (W : World) {H : Type} {enc : TypeId × Value → H} {v0 v1 : Value} (a0 : Arg enc Try.prog W 3 v0) (a1 : Arg enc Try.prog W 22 v1) :
    Calls Try.prog 3 #[v0, v1] W fun e w' => e = .returned (.bool true) ∧ Below W.heap.size W w' := by
  obtain ⟨room, rfl, _⟩ := a0.int Try.underlying3
  obtain ⟨A, len, cap, bs, rfl, hsl⟩ := a1.slice (α := Bool) (Q := fun cs b => cs = [.bool b]) (size := 1) Try.underlying22 (by kernel_rfl) (by omega) (fun cs h => h.bool Try.underlying4)
  have hlen := hsl.len
  have hcap := hsl.cap
  have hcap' := hsl.cap'
  unfold maxLen at hcap'
  have hat : ∀ k, k < len → ∃ b off c, A = some ⟨b, off, none⟩ ∧ W.cell? ⟨b, off + k, none⟩ = some (.bool c) := by
    intro k hk
    obtain ⟨b, off, cs, h1, h2, h3, h4⟩ := hsl.at_ k (bs[k]'(by omega)) (List.getElem?_eq_getElem _)
    subst h4
    exact ⟨b, off, _, h1, by have := h3 0 (by omega); rw [roCell_start] at this; simpa using this⟩
  clear hsl hlen
  have Hat := Lib.hid hat; clear hat
  have hst0 := St.start W
  go_enter Try.func3, Try.ntmps3
  go_wp2_with fail
  refine (alive hst0).mono ?_
  rintro e w1 ⟨rfl, hst1⟩
  by_cases h200 : (200 : Int) < len
  · go_wp2_with fail
    go_ret
    exact ⟨rfl, hst1.below (Le.refl _)⟩
  go_wp2_with fail
  refine (new_int' room hst1).mono ?_
  rintro e w2 ⟨ρ0, hnew, rfl, hst2⟩
  have inv0 := Inv.new hnew
  have hmost : (max 1 (min room 16) : Int) = (roomOf room : Int) := by unfold roomOf; omega
  have hr16 : roomOf room ≤ 16 := by unfold roomOf; omega
  clear hnew
  generalize roomOf room = n at *
  generalize ρ0.r = r at *
  go_wp2_with fail
  have hroom := o_room inv0 hst2
  refine hroom.mono ?_
  clear hroom
  rintro e w3 ⟨rfl, m, rfl⟩
  go_wp2_with fail
  have hst3 := hst2.drew m
  clear hst0 hst1 hst2 a0 a1 hmost
  generalize w2.drewN m = w3 at *
  go_loopw [7, 8, 29] (fun sent got i wr => ∃ (k s g : Nat) (ρ : Ring), k ≤ len ∧ s ≤ k ∧ i = .int .i64 k ∧ sent = .int .i64 s ∧ got = .int .i64 g ∧ Inv ρ r n s g ∧ St W wr (fun b => W.heap[b]?) (ρ.L 77 3 ++ []))
    (fun _ _ i _ => len - (intOf i).toNat)
  case atStart => exact ⟨0, 0, 0, ρ0, by omega, by omega, rfl, rfl, rfl, inv0, hst3⟩
  case round =>
    obtain ⟨k, s, g, ρ, hk, hs, rfl, rfl, rfl, inv, hst⟩ := hrel
    clear inv0 hst3
    have hgs := inv.gs
    by_cases hlt : k < len
    · obtain ⟨b, off, c, rfl, hc⟩ := Hat.out k hlt
      have hcw := hst.ro (by rw [roCell_start]; exact hc)
      clear hc
      cases c
      · by_cases hg : g < s
        · go_wp2_with ((go_at_call 12; refine (o_recv_yes inv hg hst).mono ?_; rintro e w4 ⟨rfl, ρ', inv', hst'⟩))
          have hle := inv'.le
          have hgs' := inv'.gs
          have q1 := o_len inv' hst'
          have q2 := o_room inv' hst'
          have Q1 := Lib.hid q1; clear q1
          have Q2 := Lib.hid q2; clear q2
          go_wp2_with fail
          refine Q1.out.mono ?_
          rintro e w5 ⟨rfl, rfl⟩
          go_wp2_with fail
          refine Q2.out.mono ?_
          rintro e w5 ⟨rfl, m5, rfl⟩
          have q3 := o_len inv' (hst'.drew m5)
          go_wp2_with fail
          refine q3.mono ?_
          clear q3
          rintro e w5 ⟨rfl, rfl⟩
          go_wp2_with fail
          go_roundw
          case rel => exact ⟨k + 1, s, g + 1, ρ', by omega, by omega, by go_num, by go_num, by go_num, inv', hst'.drew m5⟩
          case measure => simp [intOf]; omega
        · go_wp2_with ((go_at_call 12; refine (o_recv_no inv hg hst).mono ?_; rintro e w4 ⟨rfl, ρ', inv', hst'⟩))
          have hle := inv'.le
          have hgs' := inv'.gs
          have q1 := o_len inv' hst'
          have q2 := o_room inv' hst'
          have Q1 := Lib.hid q1; clear q1
          have Q2 := Lib.hid q2; clear q2
          go_wp2_with fail
          refine Q1.out.mono ?_
          rintro e w5 ⟨rfl, rfl⟩
          go_wp2_with fail
          refine Q2.out.mono ?_
          rintro e w5 ⟨rfl, m5, rfl⟩
          have q3 := o_len inv' (hst'.drew m5)
          go_wp2_with fail
          refine q3.mono ?_
          clear q3
          rintro e w5 ⟨rfl, rfl⟩
          go_wp2_with fail
          go_roundw
          case rel => exact ⟨k + 1, s, g, ρ', by omega, by omega, by go_num, by go_num, by go_num, inv', hst'.drew m5⟩
          case measure => simp [intOf]; omega
      · by_cases hr : s - g < n
        · have hri : (s : Int) - g < n := by omega
          go_wp2_with ((go_at_call 11; refine (o_send_yes inv hr hst).mono ?_; rintro e w4 ⟨rfl, ρ', inv', hst'⟩))
          have hle := inv'.le
          have hgs' := inv'.gs
          have q1 := o_len inv' hst'
          have q2 := o_room inv' hst'
          have Q1 := Lib.hid q1; clear q1
          have Q2 := Lib.hid q2; clear q2
          go_wp2_with fail
          refine Q1.out.mono ?_
          rintro e w5 ⟨rfl, rfl⟩
          go_wp2_with fail
          refine Q2.out.mono ?_
          rintro e w5 ⟨rfl, m5, rfl⟩
          have q3 := o_len inv' (hst'.drew m5)
          go_wp2_with fail
          refine q3.mono ?_
          clear q3
          rintro e w5 ⟨rfl, rfl⟩
          go_wp2_with fail
          go_roundw
          case rel => exact ⟨k + 1, s + 1, g, ρ', by omega, by omega, by go_num, by go_num, by go_num, inv', hst'.drew m5⟩
          case measure => simp [intOf]; omega
        · have hri : ¬ (s : Int) - g < n := by omega
          go_wp2_with ((go_at_call 11; refine (o_send_no inv hr hst).mono ?_; rintro e w4 ⟨rfl, ρ', inv', hst'⟩))
          have hle := inv'.le
          have hgs' := inv'.gs
          have q1 := o_len inv' hst'
          have q2 := o_room inv' hst'
          have Q1 := Lib.hid q1; clear q1
          have Q2 := Lib.hid q2; clear q2
          go_wp2_with fail
          refine Q1.out.mono ?_
          rintro e w5 ⟨rfl, rfl⟩
          go_wp2_with fail
          refine Q2.out.mono ?_
          rintro e w5 ⟨rfl, m5, rfl⟩
          have q3 := o_len inv' (hst'.drew m5)
          go_wp2_with fail
          refine q3.mono ?_
          clear q3
          rintro e w5 ⟨rfl, rfl⟩
          go_wp2_with fail
          go_roundw
          case rel => exact ⟨k + 1, s, g, ρ', by omega, by omega, by go_num, by go_num, by go_num, inv', hst'.drew m5⟩
          case measure => simp [intOf]; omega
    · have : k = len := by omega
      subst this
      go_wp2_with fail
      go_ret
      exact ⟨rfl, hst.below (Le.refl _)⟩
end Go.Proofs.Ytlhplndngfffoaa
