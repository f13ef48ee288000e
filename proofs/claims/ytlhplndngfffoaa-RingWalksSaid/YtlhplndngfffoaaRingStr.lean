/- The walks of a ring of str: each function does what Ring.send, Ring.recv .. say. -/
import Derived.Test.YtlhplndngfffoaaRingPure
namespace Go.Proofs.Ytlhplndngfffoaa
set_option linter.unusedVariables false
set_option linter.unusedSimpArgs false
open Go.RowKit

set_option maxHeartbeats 400000 in
theorem place_str (w : World) (r ab n first k idx : Nat) (hn : 0 < n) (hn16 : n ≤ 16) (hf : first < 16) (hk : k ≤ 16) (hi : Hid ((first + k) % n = idx))
   (h0 : w.cell? ⟨r, 0, none⟩ = some (.slice (some ⟨ab, 0, none⟩) n n)) (h1 : w.cell? ⟨r, 1, none⟩ = some (.int .i64 first)) :
    Calls Try.prog 50 #[.pointer (some ⟨r, 0, none⟩), .int .i64 k] w fun e w' => e = .returned (.int .i64 (idx : Int)) ∧ ∃ m, w' = w.drewN m := by
  go_enter Try.func50, Try.ntmps50
  go_wp2_with fail
  go_quiet (fail)
  go_wp2_with fail
  go_ret
  exact ⟨by rw [← hi.out]; rfl, _, rfl⟩

set_option maxHeartbeats 400000 in
theorem room_str (ρ : Ring) (ok : ρ.Ok) {W w : World} {I : Nat → Option Obj} {F : List (Nat × Obj)} (h : St W w I (ρ.L 89 9 ++ F)) :
    Calls Try.prog 32 #[.pointer (some ⟨ρ.r, 0, none⟩)] w fun e w' => e = .returned (.int .i64 (ρ.room : Int)) ∧ ∃ m, w' = w.drewN m := by
  have h0 := Ring.c0 h
  have h2 := Ring.c2 h
  have h3 := Ring.c3 h
  have b1 := ok.n16
  have b2 := ok.many
  cases hc : ρ.closed
  · rw [hc] at h3
    go_enter Try.func32, Try.ntmps32
    go_wp2_with fail
    go_quiet (fail)
    go_wp2_with fail
    go_ret
    refine ⟨?_, _, rfl⟩
    simp [Ring.room, hc]; omega
  · rw [hc] at h3
    go_enter Try.func32, Try.ntmps32
    go_wp2_with fail
    go_ret
    exact ⟨by simp [Ring.room, hc], 0, rfl⟩

set_option maxHeartbeats 400000 in
theorem peek_str (ρ : Ring) (ok : ρ.Ok) {W w : World} {I : Nat → Option Obj} {F : List (Nat × Obj)} (h : St W w I (ρ.L 89 9 ++ F)) :
    Calls Try.prog 37 #[.pointer (some ⟨ρ.r, 0, none⟩)] w fun e w' => e = .returned (.tuple #[ρ.front (.string ⟨#[]⟩), .bool ρ.any]) ∧ ∃ m, w' = w.drewN m := by
  have h0 := Ring.c0 h
  have h1 := Ring.c1 h
  have h2 := Ring.c2 h
  have ha := Ring.ca h
  have b1 := ok.n16
  have b2 := ok.many
  have b3 := ok.f
  cases hx : ρ.xs with
  | nil =>
    rw [hx] at h2
    simp at h2
    go_enter Try.func37, Try.ntmps37
    go_wp2_with fail
    go_ret2
    exact ⟨by rw [Ring.front, Ring.any, hx]; rfl, 0, rfl⟩
  | cons x l =>
    have hl : 0 < ρ.xs.length := by rw [hx]; simp
    have h4 := ok.at_ 0 x (by rw [hx]; rfl)
    rw [Nat.add_zero, Nat.mod_eq_of_lt b3] at h4
    have h5 := (ha ρ.first).trans h4
    clear ha h4
    have H := Lib.hid hx; clear hx
    go_enter Try.func37, Try.ntmps37
    go_wp2_with fail
    go_quiet (fail)
    go_wp2_with fail
    go_ret2
    exact ⟨by rw [Ring.front, Ring.any, H.out]; rfl, _, rfl⟩

set_option maxHeartbeats 1000000 in
theorem send_str (ρ : Ring) (ok : ρ.Ok) (v : ByteArray) {W w : World} {I : Nat → Option Obj} {F : List (Nat × Obj)} (h : St W w I (ρ.L 89 9 ++ F)) :
    Calls Try.prog 26 #[.pointer (some ⟨ρ.r, 0, none⟩), .string v] w fun e w' => e = .returned (.bool ρ.can) ∧ St W w' I ((ρ.put (.string v)).L 89 9 ++ F) := by
  by_cases hr : 0 < ρ.room
  · have h0 := Ring.c0 h
    have h1 := Ring.c1 h
    have h2 := Ring.c2 h
    have ha := Ring.ca h
    have b1 := ok.n16
    have b2 := ok.many
    have b3 := ok.f
    have b4 : 0 < ρ.n := ok.n1
    have b5 : ρ.n ≤ 16 := ok.n16
    have b6 : ρ.first < 16 := by omega
    have b7 : ρ.xs.length ≤ 16 := by omega
    have h5 : ∃ u, w.cell? ⟨ρ.ab, (ρ.first + ρ.xs.length) % ρ.n, none⟩ = some u := by
      have : (ρ.first + ρ.xs.length) % ρ.n < ρ.arr.size := by rw [ok.size]; exact Nat.mod_lt _ b4
      exact ⟨_, (ha _).trans (Array.getElem?_eq_getElem this)⟩
    obtain ⟨u, h5⟩ := h5
    have b8 : (((ρ.first + ρ.xs.length) % ρ.n : Nat) : Int) < (ρ.n : Int) := by have := Nat.mod_lt (ρ.first + ρ.xs.length) b4; omega
    have b9 : (0 : Int) ≤ (((ρ.first + ρ.xs.length) % ρ.n : Nat) : Int) := by omega
    have f5 := Ring.fa h ((ρ.first + ρ.xs.length) % ρ.n)
    have fr := Ring.fr h 2
    have hne := Ring.ne h
    clear ha
    have hrr : (((ρ.room : Nat) : Int) == 0) = false := by simp; omega
    have hst : ∀ m i, i = (ρ.first + ρ.xs.length) % ρ.n → St W (((w.drewN m).setCell ⟨ρ.ab, i, none⟩ (.string v)).setCell ⟨ρ.r, 2, none⟩ (.int .i64 ((ρ.xs.length : Int) + 1))) I ((ρ.send (.string v)).L 89 9 ++ F) := by
      rintro m i rfl
      have s1 := St.set (A := [(ρ.r, _)]) (B := F) (h.drew m) ((ρ.first + ρ.xs.length) % ρ.n) (.string v)
      have s2 := St.set (A := []) s1 2 (.int .i64 ((ρ.xs.length : Int) + 1))
      simpa [Ring.send, Ring.L] using s2
    have Hst := Lib.hid hst; clear hst
    generalize hidx : (ρ.first + ρ.xs.length) % ρ.n = idx at h5 b8 b9 f5
    have Hidx := Lib.hid hidx; clear hidx
    go_enter Try.func26, Try.ntmps26
    go_wp2_with ((go_at_call 32; refine (room_str ρ ok h).mono ?_; rintro e w' ⟨rfl, m, rfl⟩))
    go_region_held3 (fun w' => w'.cell? ⟨ρ.r, 0, none⟩ = some (.slice (some ⟨ρ.ab, 0, none⟩) ρ.n ρ.n) ∧ w'.cell? ⟨ρ.r, 1, none⟩ = some (.int .i64 ρ.first) ∧ w'.cell? ⟨ρ.r, 2, none⟩ = some (.int .i64 ρ.xs.length)) (simp [*, World.cell?_setCell_far, Ne.symm hne])
      (first | (go_at_call 50; refine (place_str _ ρ.r ρ.ab ρ.n ρ.first ρ.xs.length idx b4 b5 b6 b7 Hidx (by first | exact h0 | simp [*]) (by first | exact h1 | simp [*])).mono ?_; rintro e w' ⟨rfl, m, rfl⟩))
    go_wp2_with fail
    go_ret
    rw [Ring.can_yes hr, Ring.put_yes hr]
    exact ⟨rfl, Hst.out _ _ Hidx.out.symm⟩
  · have hrr : (((ρ.room : Nat) : Int) == 0) = true := by simp; omega
    go_enter Try.func26, Try.ntmps26
    go_wp2_with ((go_at_call 32; refine (room_str ρ ok h).mono ?_; rintro e w' ⟨rfl, m, rfl⟩))
    go_ret
    rw [Ring.can_no hr, Ring.put_no hr]
    exact ⟨rfl, h.drew _⟩

set_option maxHeartbeats 1000000 in
theorem recv_str (ρ : Ring) (ok : ρ.Ok) {W w : World} {I : Nat → Option Obj} {F : List (Nat × Obj)} (h : St W w I (ρ.L 89 9 ++ F)) :
    Calls Try.prog 28 #[.pointer (some ⟨ρ.r, 0, none⟩)] w fun e w' => e = .returned (.tuple #[ρ.front (.string ⟨#[]⟩), .bool ρ.any]) ∧ St W w' I ((ρ.recv (.string ⟨#[]⟩)).L 89 9 ++ F) := by
  by_cases hx : ρ.xs = []
  · have hp := peek_str ρ ok h
    have ea : ρ.any = false := by simp [Ring.any, hx]
    rw [ea] at hp ⊢
    have hst : ∀ m, St W (w.drewN m) I ((ρ.recv (.string ⟨#[]⟩)).L 89 9 ++ F) := by intro m; rw [Ring.recv, if_pos hx]; exact h.drew m
    have Hst := Lib.hid hst; clear hst
    have Hp := Lib.hid hp; clear hp
    have Ea := Lib.hid ea; clear ea
    go_enter Try.func28, Try.ntmps28
    go_wp2_with ((go_at_call 37; refine Hp.out.mono ?_; rintro e w' ⟨rfl, m, rfl⟩))
    go_ret2
    exact ⟨rfl, Hst.out _⟩
  · have hp := peek_str ρ ok h
    have hl : 0 < ρ.xs.length := by cases h : ρ.xs with | nil => exact absurd h hx | cons _ _ => simp
    have ea : ρ.any = true := by cases h : ρ.xs with | nil => exact absurd h hx | cons _ _ => simp [Ring.any, h]
    rw [ea] at hp ⊢
    have h0 := Ring.c0 h
    have h1 := Ring.c1 h
    have h2 := Ring.c2 h
    have b1 := ok.n16
    have b2 := ok.many
    have b3 := ok.f
    have b4 : 0 < ρ.n := ok.n1
    have b5 : ρ.n ≤ 16 := ok.n16
    have b6 : ρ.first < 16 := by omega
    have h5 : ∃ u, w.cell? ⟨ρ.ab, ρ.first, none⟩ = some u := by
      have : ρ.first < ρ.arr.size := by rw [ok.size]; exact b3
      exact ⟨_, (Ring.ca h _).trans (Array.getElem?_eq_getElem this)⟩
    obtain ⟨u, h5⟩ := h5
    have f5 := Ring.fa h ρ.first
    have fr1 := Ring.fr h 1
    have fr2 := Ring.fr h 2
    have hne := Ring.ne h
    have hst : ∀ m i, i = (ρ.first + 1) % ρ.n → St W ((((w.drewN m).setCell ⟨ρ.ab, ρ.first, none⟩ (.string ⟨#[]⟩)).setCell ⟨ρ.r, 1, none⟩ (.int .i64 i)).setCell ⟨ρ.r, 2, none⟩ (.int .i64 ((ρ.xs.length : Int) - 1))) I ((ρ.recv (.string ⟨#[]⟩)).L 89 9 ++ F) := by
      rintro m i rfl
      have s1 := St.set (A := [(ρ.r, _)]) (B := F) (h.drew m) ρ.first (.string ⟨#[]⟩)
      have s2 := St.set (A := []) s1 1 (.int .i64 (((ρ.first + 1) % ρ.n : Nat) : Int))
      have s3 := St.set (A := []) s2 2 (.int .i64 ((ρ.xs.length : Int) - 1))
      have e : ((ρ.xs.tail.length : Nat) : Int) = (ρ.xs.length : Int) - 1 := by rw [List.length_tail]; omega
      rw [Ring.recv, if_neg hx]
      simp only [Ring.L, e]
      simpa [Ring.L] using s3
    have Hst := Lib.hid hst; clear hst
    obtain ⟨idx, hidx⟩ : ∃ i, (ρ.first + 1) % ρ.n = i := ⟨_, rfl⟩
    have Hidx := Lib.hid hidx; clear hidx
    have Hp := Lib.hid hp; clear hp
    have Hx := Lib.hid hx; clear hx
    have Ea := Lib.hid ea; clear ea
    go_enter Try.func28, Try.ntmps28
    go_wp2_with ((go_at_call 37; refine Hp.out.mono ?_; rintro e w' ⟨rfl, m, rfl⟩))
    go_region_held3 (fun w' => w'.cell? ⟨ρ.r, 0, none⟩ = some (.slice (some ⟨ρ.ab, 0, none⟩) ρ.n ρ.n) ∧ w'.cell? ⟨ρ.r, 1, none⟩ = some (.int .i64 ρ.first)) (simp [*, World.cell?_setCell_far, Ne.symm hne]) (fail)
    go_wp2_with ((go_at_call 50; refine (place_str _ ρ.r ρ.ab ρ.n ρ.first 1 idx b4 b5 b6 (by omega) Hidx (by simp [*, World.cell?_setCell_far, Ne.symm hne]) (by simp [*, World.cell?_setCell_far, Ne.symm hne])).mono ?_; rintro e w' ⟨rfl, m, rfl⟩))
    go_ret2
    exact ⟨rfl, (Hst.out 0 _ Hidx.out.symm).as rfl rfl rfl rfl⟩

set_option maxHeartbeats 400000 in
theorem new_str (room : Int) {W w : World} {I : Nat → Option Obj} {F : List (Nat × Obj)} (h : St W w I F) :
    Calls Try.prog 24 #[.int .i64 room] w fun e w' => e = .returned (.pointer (some ⟨w.heap.size + 1, 0, none⟩)) ∧ St W w' I ((Ring.fresh (w.heap.size + 1) w.heap.size (roomOf room) (.string ⟨#[]⟩)).L 89 9 ++ F) := by
  have hn : roomOf room ≤ 16 := by unfold roomOf; omega
  have he : (max 1 (min room 16) : Int) = (roomOf room : Int) := by unfold roomOf; omega
  have hmk := run_make_repl (P := Try.prog) 67 9 (.string ⟨#[]⟩) 16 Try.underlying67 (by kernel_rfl) rfl (roomOf room) (by omega) (by omega)
  have hst : St W ((w.alloc (.cells (Array.replicate (roomOf room) (.string ⟨#[]⟩)) 9)).alloc (.cells #[.slice (some ⟨w.heap.size, 0, none⟩) (roomOf room) (roomOf room), .int .i64 0, .int .i64 0, .bool false] 89)) I ((Ring.fresh (w.heap.size + 1) w.heap.size (roomOf room) (.string ⟨#[]⟩)).L 89 9 ++ F) := by
    have := (h.alloc (.cells (Array.replicate (roomOf room) (.string ⟨#[]⟩)) 9)).alloc (.cells #[.slice (some ⟨w.heap.size, 0, none⟩) (roomOf room) (roomOf room), .int .i64 0, .int .i64 0, .bool false] 89)
    simpa [Ring.L, Ring.fresh] using this
  have Hst := Lib.hid hst; clear hst
  generalize roomOf room = n at *
  go_enter Try.func24, Try.ntmps24
  go_wp2_with fail
  go_ret
  exact ⟨rfl, Hst.out⟩

theorem new_str' (room : Int) {W w : World} {I : Nat → Option Obj} {F : List (Nat × Obj)} (h : St W w I F) :
    Calls Try.prog 24 #[.int .i64 room] w fun e w' => ∃ ρ : Ring, ρ.New (roomOf room) ∧ e = .returned (.pointer (some ⟨ρ.r, 0, none⟩)) ∧ St W w' I (ρ.L 89 9 ++ F) :=
  (new_str room h).mono fun _ _ ⟨he, hs⟩ => ⟨_, Ring.fresh_new _ _ room _, he, hs⟩

set_option maxHeartbeats 400000 in
theorem len_str (ρ : Ring) {W w : World} {I : Nat → Option Obj} {F : List (Nat × Obj)} (h : St W w I (ρ.L 89 9 ++ F)) :
    Calls Try.prog 31 #[.pointer (some ⟨ρ.r, 0, none⟩)] w fun e w' => e = .returned (.int .i64 (ρ.xs.length : Int)) ∧ w = w' := by
  have h2 := Ring.c2 h
  go_enter Try.func31, Try.ntmps31
  go_wp2_with fail
  go_ret
  exact ⟨rfl, rfl⟩
end Go.Proofs.Ytlhplndngfffoaa
