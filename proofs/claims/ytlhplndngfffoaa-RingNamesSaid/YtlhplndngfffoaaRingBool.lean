/- The walks of a ring of bool: each function does what Ring.send, Ring.recv .. say. -/
import Derived.Test.YtlhplndngfffoaaRingPure
namespace Go.Proofs.Ytlhplndngfffoaa
open Go.RowKit

set_option maxHeartbeats 400000 in
theorem room_bool (ρ : Ring) (ok : ρ.Ok) {W w : World} {I : Nat → Option Obj} {F : List (Nat × Obj)} (h : St W w I (ρ.L 91 4 ++ F)) :
    Calls Try.prog 29 #[.pointer (some ⟨ρ.r, 0, none⟩)] w fun e w' => e = .returned (.int .i64 (ρ.room : Int)) ∧ ∃ m, w' = w.drewN m := by
  have h0 := Ring.c0 h
  have h2 := Ring.c2 h
  have h3 := Ring.c3 h
  have b1 := ok.n16
  have b2 := ok.many
  cases hc : ρ.closed
  · rw [hc] at h3
    go_enter Try.func29, Try.ntmps29
    go_wp2_with fail
    go_quiet (fail)
    go_wp2_with fail
    go_ret
    refine ⟨?_, _, rfl⟩
    simp [Ring.room, hc]; omega
  · rw [hc] at h3
    go_enter Try.func29, Try.ntmps29
    go_wp2_with fail
    go_ret
    exact ⟨by simp [Ring.room, hc], 0, rfl⟩

set_option maxHeartbeats 400000 in
theorem new_bool (room : Int) {W w : World} {I : Nat → Option Obj} {F : List (Nat × Obj)} (h : St W w I F) :
    Calls Try.prog 25 #[.int .i64 room] w fun e w' => e = .returned (.pointer (some ⟨w.heap.size + 1, 0, none⟩)) ∧ St W w' I ((Ring.fresh (w.heap.size + 1) w.heap.size (roomOf room) (.bool false)).L 91 4 ++ F) := by
  have hn : roomOf room ≤ 16 := by unfold roomOf; omega
  have he : (max 1 (min room 16) : Int) = (roomOf room : Int) := by unfold roomOf; omega
  have hmk := run_make_repl (P := Try.prog) 22 4 (.bool false) 1 Try.underlying22 (by kernel_rfl) rfl (roomOf room) (by omega) (by omega)
  have hst : St W ((w.alloc (.cells (Array.replicate (roomOf room) (.bool false)) 4)).alloc (.cells #[.slice (some ⟨w.heap.size, 0, none⟩) (roomOf room) (roomOf room), .int .i64 0, .int .i64 0, .bool false] 91)) I ((Ring.fresh (w.heap.size + 1) w.heap.size (roomOf room) (.bool false)).L 91 4 ++ F) := by
    have := (h.alloc (.cells (Array.replicate (roomOf room) (.bool false)) 4)).alloc (.cells #[.slice (some ⟨w.heap.size, 0, none⟩) (roomOf room) (roomOf room), .int .i64 0, .int .i64 0, .bool false] 91)
    simpa [Ring.L, Ring.fresh] using this
  have Hst := Lib.hid hst; clear hst
  generalize roomOf room = n at *
  go_enter Try.func25, Try.ntmps25
  go_wp2_with fail
  go_ret
  exact ⟨rfl, Hst.out⟩

theorem new_bool' (room : Int) {W w : World} {I : Nat → Option Obj} {F : List (Nat × Obj)} (h : St W w I F) :
    Calls Try.prog 25 #[.int .i64 room] w fun e w' => ∃ ρ : Ring, ρ.New (roomOf room) ∧ e = .returned (.pointer (some ⟨ρ.r, 0, none⟩)) ∧ St W w' I (ρ.L 91 4 ++ F) :=
  (new_bool room h).mono fun _ _ ⟨he, hs⟩ => ⟨_, Ring.fresh_new _ _ room _, he, hs⟩
end Go.Proofs.Ytlhplndngfffoaa
