/- What a ring is in memory, and what its functions make of it. The walks of a ring of nt: each function does what Ring.send, Ring.recv .. say. -/
import Derived.Test.YtnhlpiomfljlcaaDoorRows
import Derived.Test.YtnhlpiomfljlcaaDoorBase
import Derived.Deep.RegionHeld3
namespace Go.Proofs.YtnhlpiomfljlcaaDoor
section
set_option linter.unusedVariables false
set_option linter.unusedSimpArgs false
open Go.RowKit

structure Ring where
  r : Nat
  ab : Nat
  n : Nat
  first : Nat
  arr : Array Value
  xs : List Value
  closed : Bool

structure Ring.Ok (ρ : Ring) : Prop where
  n1 : 1 ≤ ρ.n
  n16 : ρ.n ≤ 16
  f : ρ.first < ρ.n
  size : ρ.arr.size = ρ.n
  many : ρ.xs.length ≤ ρ.n
  at_ : ∀ k v, ρ.xs[k]? = some v → ρ.arr[(ρ.first + k) % ρ.n]? = some v
  shut : ρ.closed = true → ρ.xs = []

def Ring.L (T E : TypeId) (ρ : Ring) : List (Nat × Obj) :=
  [(ρ.r, .cells #[.slice (some ⟨ρ.ab, 0, none⟩) ρ.n ρ.n, .int .i64 ρ.first, .int .i64 ρ.xs.length, .bool ρ.closed] T (0, 0)), (ρ.ab, .cells ρ.arr E (0, 0))]

def Ring.room (ρ : Ring) : Nat := if ρ.closed then 0 else ρ.n - ρ.xs.length

def Ring.send (ρ : Ring) (v : Value) : Ring := { ρ with arr := ρ.arr.setIfInBounds ((ρ.first + ρ.xs.length) % ρ.n) v, xs := ρ.xs ++ [v] }
def Ring.recv (ρ : Ring) (z : Value) : Ring := if ρ.xs = [] then ρ else { ρ with arr := ρ.arr.setIfInBounds ρ.first z, first := (ρ.first + 1) % ρ.n, xs := ρ.xs.tail }
def Ring.can (ρ : Ring) : Bool := decide (0 < ρ.room)
def Ring.put (ρ : Ring) (v : Value) : Ring := if 0 < ρ.room then ρ.send v else ρ
def Ring.front (ρ : Ring) (z : Value) : Value := ρ.xs.headD z
def Ring.any (ρ : Ring) : Bool := !ρ.xs.isEmpty
def Ring.close (ρ : Ring) (z : Value) : Ring := { ρ with arr := Array.replicate ρ.n z, first := 0, xs := [], closed := true }

theorem mod_ne {f a b n : Nat} (_hf : f < n) (ha : a < n) (hb : b < n) (hne : a ≠ b) : (f + a) % n ≠ (f + b) % n := by
  intro h
  have e1 : (f + a) % n = if f + a < n then f + a else f + a - n := by
    split
    · exact Nat.mod_eq_of_lt ‹_›
    · rw [Nat.mod_eq_sub_mod (by omega), Nat.mod_eq_of_lt (by omega)]
  have e2 : (f + b) % n = if f + b < n then f + b else f + b - n := by
    split
    · exact Nat.mod_eq_of_lt ‹_›
    · rw [Nat.mod_eq_sub_mod (by omega), Nat.mod_eq_of_lt (by omega)]
  rw [e1, e2] at h
  split at h <;> split at h <;> omega

theorem Ring.send_ok {ρ : Ring} (ok : ρ.Ok) (v : Value) (h : ρ.xs.length < ρ.n) (hc : ρ.closed = false) : (ρ.send v).Ok := by
  refine ⟨ok.n1, ok.n16, ok.f, by simp [Ring.send, ok.size], by simp [Ring.send]; omega, ?_, by simp [Ring.send, hc]⟩
  intro k u hk
  simp only [Ring.send] at hk ⊢
  by_cases hlt : k < ρ.xs.length
  · rw [List.getElem?_append_left hlt] at hk
    have := mod_ne ok.f (a := ρ.xs.length) (b := k) h (by omega) (by omega)
    rw [Array.getElem?_setIfInBounds_ne this]
    exact ok.at_ k u hk
  · have hke : k = ρ.xs.length := by
      have := (List.getElem?_eq_some_iff.1 hk).1
      simp at this
      omega
    subst hke
    simp at hk
    subst hk
    have : (ρ.first + ρ.xs.length) % ρ.n < ρ.arr.size := by rw [ok.size]; exact Nat.mod_lt _ (by have := ok.n1; omega)
    simp [this]

theorem Ring.can_yes {ρ : Ring} (h : 0 < ρ.room) : ρ.can = true := by simp [Ring.can, h]
theorem Ring.can_no {ρ : Ring} (h : ¬ 0 < ρ.room) : ρ.can = false := by simp [Ring.can]; omega
theorem Ring.put_yes {ρ : Ring} (h : 0 < ρ.room) (v : Value) : ρ.put v = ρ.send v := by simp [Ring.put, h]
theorem Ring.put_no {ρ : Ring} (h : ¬ 0 < ρ.room) (v : Value) : ρ.put v = ρ := if_neg h
theorem Ring.put_ok {ρ : Ring} (ok : ρ.Ok) (v : Value) : (ρ.put v).Ok := by
  by_cases h : 0 < ρ.room
  · rw [Ring.put_yes h]
    unfold Ring.room at h
    cases hc : ρ.closed
    · rw [hc] at h; simp at h; exact Ring.send_ok ok v (by omega) hc
    · rw [hc] at h; simp at h
  · rw [Ring.put_no h]; exact ok

theorem Ring.recv_ok {ρ : Ring} (ok : ρ.Ok) (z : Value) : (ρ.recv z).Ok := by
  unfold Ring.recv
  split
  · exact ok
  · rename_i hne
    have h1 := ok.n1
    have hl : 0 < ρ.xs.length := by cases h : ρ.xs with | nil => exact absurd h hne | cons _ _ => simp
    have hm := ok.many
    refine ⟨h1, ok.n16, Nat.mod_lt _ h1, by simp [ok.size], by simp; omega, ?_, ?_⟩
    · intro k u hk
      simp only at hk ⊢
      rw [List.getElem?_tail] at hk
      have hk1 := (List.getElem?_eq_some_iff.1 hk).1
      have e : ((ρ.first + 1) % ρ.n + k) % ρ.n = (ρ.first + (k + 1)) % ρ.n := by
        rw [Nat.mod_add_mod]
        congr 1
        omega
      rw [e]
      have hne' := mod_ne ok.f (a := 0) (b := k + 1) (by omega) (by omega) (by omega)
      rw [Nat.add_zero, Nat.mod_eq_of_lt ok.f] at hne'
      rw [Array.getElem?_setIfInBounds_ne hne']
      exact ok.at_ _ u hk
    · intro hc
      exact absurd (ok.shut hc) hne

theorem Ring.close_ok {ρ : Ring} (ok : ρ.Ok) (z : Value) : (ρ.close z).Ok :=
  ⟨ok.n1, ok.n16, by have := ok.n1; simp [Ring.close]; omega, by simp [Ring.close], by simp [Ring.close], by simp [Ring.close], by simp [Ring.close]⟩

/-- Of how many. -/
def roomOf (room : Int) : Nat := (max 1 (min room 16)).toNat
def Ring.fresh (r ab n : Nat) (z : Value) : Ring := ⟨r, ab, n, 0, Array.replicate n z, [], false⟩
theorem Ring.fresh_ok (r ab : Nat) (room : Int) (z : Value) : (Ring.fresh r ab (roomOf room) z).Ok := by
  have h : 1 ≤ roomOf room ∧ roomOf room ≤ 16 := by unfold roomOf; omega
  exact ⟨h.1, h.2, by simp [Ring.fresh]; omega, by simp [Ring.fresh], by simp [Ring.fresh], by simp [Ring.fresh], by simp [Ring.fresh]⟩

/-- A ring of which nothing is known but how many find room. -/
structure Ring.New (ρ : Ring) (n : Nat) : Prop where
  ok : ρ.Ok
  n : ρ.n = n
  xs : ρ.xs = []
  closed : ρ.closed = false

theorem Ring.can_eq (ρ : Ring) (hc : ρ.closed = false) : ρ.can = decide (ρ.xs.length < ρ.n) := by
  unfold Ring.can Ring.room
  rw [hc]
  simp
  omega
theorem Ring.put_xs (ρ : Ring) (hc : ρ.closed = false) (v : Value) : (ρ.put v).xs = if ρ.xs.length < ρ.n then ρ.xs ++ [v] else ρ.xs := by
  unfold Ring.put Ring.room
  rw [hc]
  simp only [Bool.false_eq_true, if_false]
  by_cases h : ρ.xs.length < ρ.n
  · rw [if_pos (by omega), if_pos h]; rfl
  · rw [if_neg (by omega), if_neg h]
theorem Ring.put_n (ρ : Ring) (v : Value) : (ρ.put v).n = ρ.n := by unfold Ring.put; split <;> rfl
theorem Ring.put_r (ρ : Ring) (v : Value) : (ρ.put v).r = ρ.r := by unfold Ring.put; split <;> rfl
theorem Ring.put_closed (ρ : Ring) (v : Value) : (ρ.put v).closed = ρ.closed := by unfold Ring.put; split <;> rfl
theorem Ring.recv_n (ρ : Ring) (v : Value) : (ρ.recv v).n = ρ.n := by unfold Ring.recv; split <;> rfl
theorem Ring.recv_r (ρ : Ring) (v : Value) : (ρ.recv v).r = ρ.r := by unfold Ring.recv; split <;> rfl
theorem Ring.recv_closed (ρ : Ring) (v : Value) : (ρ.recv v).closed = ρ.closed := by unfold Ring.recv; split <;> rfl
theorem Ring.recv_xs (ρ : Ring) (v : Value) : (ρ.recv v).xs = ρ.xs.tail := by
  unfold Ring.recv
  split
  · rename_i h; rw [h]; rfl
  · rfl

section
variable {W w : World} {I : Nat → Option Obj} {F : List (Nat × Obj)} {T E : TypeId} {ρ : Ring}

theorem Ring.fresh_new (r ab : Nat) (room : Int) (z : Value) : (Ring.fresh r ab (roomOf room) z).New (roomOf room) := ⟨Ring.fresh_ok r ab room z, rfl, rfl, rfl⟩
theorem Ring.c0 (h : St W w I (ρ.L T E ++ F)) : w.cell? ⟨ρ.r, 0, none⟩ = some (.slice (some ⟨ρ.ab, 0, none⟩) ρ.n ρ.n) := h.cell (cs := #[.slice (some ⟨ρ.ab, 0, none⟩) ρ.n ρ.n, .int .i64 ρ.first, .int .i64 ρ.xs.length, .bool ρ.closed]) (by simp [Ring.L]; left; exact ⟨rfl, rfl⟩) 0
theorem Ring.c1 (h : St W w I (ρ.L T E ++ F)) : w.cell? ⟨ρ.r, 1, none⟩ = some (.int .i64 ρ.first) := h.cell (cs := #[.slice (some ⟨ρ.ab, 0, none⟩) ρ.n ρ.n, .int .i64 ρ.first, .int .i64 ρ.xs.length, .bool ρ.closed]) (by simp [Ring.L]; left; exact ⟨rfl, rfl⟩) 1
theorem Ring.c2 (h : St W w I (ρ.L T E ++ F)) : w.cell? ⟨ρ.r, 2, none⟩ = some (.int .i64 ρ.xs.length) := h.cell (cs := #[.slice (some ⟨ρ.ab, 0, none⟩) ρ.n ρ.n, .int .i64 ρ.first, .int .i64 ρ.xs.length, .bool ρ.closed]) (by simp [Ring.L]; left; exact ⟨rfl, rfl⟩) 2
theorem Ring.c3 (h : St W w I (ρ.L T E ++ F)) : w.cell? ⟨ρ.r, 3, none⟩ = some (.bool ρ.closed) := h.cell (cs := #[.slice (some ⟨ρ.ab, 0, none⟩) ρ.n ρ.n, .int .i64 ρ.first, .int .i64 ρ.xs.length, .bool ρ.closed]) (by simp [Ring.L]; left; exact ⟨rfl, rfl⟩) 3
theorem Ring.ca (h : St W w I (ρ.L T E ++ F)) (i : Nat) : w.cell? ⟨ρ.ab, i, none⟩ = ρ.arr[i]? := h.cell (cs := ρ.arr) (t := E) (fr := (0, 0)) (by simp [Ring.L]) i
theorem Ring.ne (h : St W w I (ρ.L T E ++ F)) : ρ.r ≠ ρ.ab := by
  have := h.nodup
  simp [Ring.L] at this
  exact this.1.1
theorem Ring.fr (h : St W w I (ρ.L T E ++ F)) (i : Nat) : w.frozen? ⟨ρ.r, i, none⟩ = false := h.frozen (t := T) (by simp [Ring.L]; left; rfl) i
theorem Ring.fa (h : St W w I (ρ.L T E ++ F)) (i : Nat) : w.frozen? ⟨ρ.ab, i, none⟩ = false := h.frozen (t := E) (cs := ρ.arr) (by simp [Ring.L]) i
end
end

section
set_option linter.unusedVariables false
set_option linter.unusedSimpArgs false
open Go.RowKit

set_option maxHeartbeats 400000 in
theorem place_nt (w : World) (r ab n first k idx : Nat) (hn : 0 < n) (hn16 : n ≤ 16) (hf : first < 16) (hk : k ≤ 16) (hi : Hid ((first + k) % n = idx))
   (h0 : w.cell? ⟨r, 0, none⟩ = some (.slice (some ⟨ab, 0, none⟩) n n)) (h1 : w.cell? ⟨r, 1, none⟩ = some (.int .i64 first)) :
    Calls Tryd.prog 35 #[.pointer (some ⟨r, 0, none⟩), .int .i64 k] w fun e w' => e = .returned (.int .i64 (idx : Int)) ∧ ∃ m, w' = w.drewN m := by
  go_enter Tryd.func35, Tryd.ntmps35
  go_wp2_with fail
  go_quiet (fail)
  go_wp2_with fail
  go_ret
  exact ⟨by rw [← hi.out]; rfl, _, rfl⟩

set_option maxHeartbeats 400000 in
theorem room_nt (ρ : Ring) (ok : ρ.Ok) {W w : World} {I : Nat → Option Obj} {F : List (Nat × Obj)} (h : St W w I (ρ.L 95 34 ++ F)) :
    Calls Tryd.prog 34 #[.pointer (some ⟨ρ.r, 0, none⟩)] w fun e w' => e = .returned (.int .i64 (ρ.room : Int)) ∧ ∃ m, w' = w.drewN m := by
  have h0 := Ring.c0 h
  have h2 := Ring.c2 h
  have h3 := Ring.c3 h
  have b1 := ok.n16
  have b2 := ok.many
  cases hc : ρ.closed
  · rw [hc] at h3
    go_enter Tryd.func34, Tryd.ntmps34
    go_wp2_with fail
    go_quiet (fail)
    go_wp2_with fail
    go_ret
    refine ⟨?_, _, rfl⟩
    simp [Ring.room, hc]; omega
  · rw [hc] at h3
    go_enter Tryd.func34, Tryd.ntmps34
    go_wp2_with fail
    go_ret
    exact ⟨by simp [Ring.room, hc], 0, rfl⟩

set_option maxHeartbeats 400000 in
theorem peek_nt (ρ : Ring) (ok : ρ.Ok) {W w : World} {I : Nat → Option Obj} {F : List (Nat × Obj)} (h : St W w I (ρ.L 95 34 ++ F)) :
    Calls Tryd.prog 61 #[.pointer (some ⟨ρ.r, 0, none⟩)] w fun e w' => e = .returned (.tuple #[ρ.front (.nilIface), .bool ρ.any]) ∧ ∃ m, w' = w.drewN m := by
  have h0 := Ring.c0 h
  have h1 := Ring.c1 h
  have h2 := Ring.c2 h
  have ha := Ring.ca h
  have b1 := ok.n16
  have b2 := ok.many
  have b3 := ok.f
  cases hx : ρ.xs with
  | nil =>
    rw [hx] at h2
    simp at h2
    go_enter Tryd.func61, Tryd.ntmps61
    go_wp2_with fail
    go_ret2
    exact ⟨by rw [Ring.front, Ring.any, hx]; rfl, 0, rfl⟩
  | cons x l =>
    have hl : 0 < ρ.xs.length := by rw [hx]; simp
    have h4 := ok.at_ 0 x (by rw [hx]; rfl)
    rw [Nat.add_zero, Nat.mod_eq_of_lt b3] at h4
    have h5 := (ha ρ.first).trans h4
    clear ha h4
    have H := Lib.hid hx; clear hx
    go_enter Tryd.func61, Tryd.ntmps61
    go_wp2_with fail
    go_quiet (fail)
    go_wp2_with fail
    go_ret2
    exact ⟨by rw [Ring.front, Ring.any, H.out]; rfl, _, rfl⟩

set_option maxHeartbeats 1000000 in
theorem send_nt (ρ : Ring) (ok : ρ.Ok) (T : TypeId) (d : Value) {W w : World} {I : Nat → Option Obj} {F : List (Nat × Obj)} (h : St W w I (ρ.L 95 34 ++ F)) :
    Calls Tryd.prog 12 #[.pointer (some ⟨ρ.r, 0, none⟩), .iface T d] w fun e w' => e = .returned (.bool ρ.can) ∧ St W w' I ((ρ.put (.iface T d)).L 95 34 ++ F) := by
  by_cases hr : 0 < ρ.room
  · have h0 := Ring.c0 h
    have h1 := Ring.c1 h
    have h2 := Ring.c2 h
    have ha := Ring.ca h
    have b1 := ok.n16
    have b2 := ok.many
    have b3 := ok.f
    have b4 : 0 < ρ.n := ok.n1
    have b5 : ρ.n ≤ 16 := ok.n16
    have b6 : ρ.first < 16 := by omega
    have b7 : ρ.xs.length ≤ 16 := by omega
    have h5 : ∃ u, w.cell? ⟨ρ.ab, (ρ.first + ρ.xs.length) % ρ.n, none⟩ = some u := by
      have : (ρ.first + ρ.xs.length) % ρ.n < ρ.arr.size := by rw [ok.size]; exact Nat.mod_lt _ b4
      exact ⟨_, (ha _).trans (Array.getElem?_eq_getElem this)⟩
    obtain ⟨u, h5⟩ := h5
    have b8 : (((ρ.first + ρ.xs.length) % ρ.n : Nat) : Int) < (ρ.n : Int) := by have := Nat.mod_lt (ρ.first + ρ.xs.length) b4; omega
    have b9 : (0 : Int) ≤ (((ρ.first + ρ.xs.length) % ρ.n : Nat) : Int) := by omega
    have f5 := Ring.fa h ((ρ.first + ρ.xs.length) % ρ.n)
    have fr := Ring.fr h 2
    have hne := Ring.ne h
    clear ha
    have hrr : (((ρ.room : Nat) : Int) == 0) = false := by simp; omega
    have hst : ∀ m i, i = (ρ.first + ρ.xs.length) % ρ.n → St W (((w.drewN m).setCell ⟨ρ.ab, i, none⟩ (.iface T d)).setCell ⟨ρ.r, 2, none⟩ (.int .i64 ((ρ.xs.length : Int) + 1))) I ((ρ.send (.iface T d)).L 95 34 ++ F) := by
      rintro m i rfl
      have s1 := St.set (A := [(ρ.r, _)]) (B := F) (h.drew m) ((ρ.first + ρ.xs.length) % ρ.n) (.iface T d)
      have s2 := St.set (A := []) s1 2 (.int .i64 ((ρ.xs.length : Int) + 1))
      simpa [Ring.send, Ring.L] using s2
    have Hst := Lib.hid hst; clear hst
    generalize hidx : (ρ.first + ρ.xs.length) % ρ.n = idx at h5 b8 b9 f5
    have Hidx := Lib.hid hidx; clear hidx
    go_enter Tryd.func12, Tryd.ntmps12
    go_wp2_with ((go_at_call 34; refine (room_nt ρ ok h).mono ?_; rintro e w' ⟨rfl, m, rfl⟩))
    go_region_held3 (fun w' => w'.cell? ⟨ρ.r, 0, none⟩ = some (.slice (some ⟨ρ.ab, 0, none⟩) ρ.n ρ.n) ∧ w'.cell? ⟨ρ.r, 1, none⟩ = some (.int .i64 ρ.first) ∧ w'.cell? ⟨ρ.r, 2, none⟩ = some (.int .i64 ρ.xs.length)) (simp [*, World.cell?_setCell_far, Ne.symm hne])
      (first | (go_at_call 35; refine (place_nt _ ρ.r ρ.ab ρ.n ρ.first ρ.xs.length idx b4 b5 b6 b7 Hidx (by first | exact h0 | simp [*]) (by first | exact h1 | simp [*])).mono ?_; rintro e w' ⟨rfl, m, rfl⟩))
    go_wp2_with fail
    go_ret
    rw [Ring.can_yes hr, Ring.put_yes hr]
    exact ⟨rfl, Hst.out _ _ Hidx.out.symm⟩
  · have hrr : (((ρ.room : Nat) : Int) == 0) = true := by simp; omega
    go_enter Tryd.func12, Tryd.ntmps12
    go_wp2_with ((go_at_call 34; refine (room_nt ρ ok h).mono ?_; rintro e w' ⟨rfl, m, rfl⟩))
    go_ret
    rw [Ring.can_no hr, Ring.put_no hr]
    exact ⟨rfl, h.drew _⟩

set_option maxHeartbeats 1000000 in
theorem recv_nt (ρ : Ring) (ok : ρ.Ok) {W w : World} {I : Nat → Option Obj} {F : List (Nat × Obj)} (h : St W w I (ρ.L 95 34 ++ F)) :
    Calls Tryd.prog 36 #[.pointer (some ⟨ρ.r, 0, none⟩)] w fun e w' => e = .returned (.tuple #[ρ.front (.nilIface), .bool ρ.any]) ∧ St W w' I ((ρ.recv (.nilIface)).L 95 34 ++ F) := by
  by_cases hx : ρ.xs = []
  · have hp := peek_nt ρ ok h
    have ea : ρ.any = false := by simp [Ring.any, hx]
    rw [ea] at hp ⊢
    have hst : ∀ m, St W (w.drewN m) I ((ρ.recv (.nilIface)).L 95 34 ++ F) := by intro m; rw [Ring.recv, if_pos hx]; exact h.drew m
    have Hst := Lib.hid hst; clear hst
    have Hp := Lib.hid hp; clear hp
    have Ea := Lib.hid ea; clear ea
    go_enter Tryd.func36, Tryd.ntmps36
    go_wp2_with ((go_at_call 61; refine Hp.out.mono ?_; rintro e w' ⟨rfl, m, rfl⟩))
    go_ret2
    exact ⟨rfl, Hst.out _⟩
  · have hp := peek_nt ρ ok h
    have hl : 0 < ρ.xs.length := by cases h : ρ.xs with | nil => exact absurd h hx | cons _ _ => simp
    have ea : ρ.any = true := by cases h : ρ.xs with | nil => exact absurd h hx | cons _ _ => simp [Ring.any, h]
    rw [ea] at hp ⊢
    have h0 := Ring.c0 h
    have h1 := Ring.c1 h
    have h2 := Ring.c2 h
    have b1 := ok.n16
    have b2 := ok.many
    have b3 := ok.f
    have b4 : 0 < ρ.n := ok.n1
    have b5 : ρ.n ≤ 16 := ok.n16
    have b6 : ρ.first < 16 := by omega
    have h5 : ∃ u, w.cell? ⟨ρ.ab, ρ.first, none⟩ = some u := by
      have : ρ.first < ρ.arr.size := by rw [ok.size]; exact b3
      exact ⟨_, (Ring.ca h _).trans (Array.getElem?_eq_getElem this)⟩
    obtain ⟨u, h5⟩ := h5
    have f5 := Ring.fa h ρ.first
    have fr1 := Ring.fr h 1
    have fr2 := Ring.fr h 2
    have hne := Ring.ne h
    have hst : ∀ m i, i = (ρ.first + 1) % ρ.n → St W ((((w.drewN m).setCell ⟨ρ.ab, ρ.first, none⟩ (.nilIface)).setCell ⟨ρ.r, 1, none⟩ (.int .i64 i)).setCell ⟨ρ.r, 2, none⟩ (.int .i64 ((ρ.xs.length : Int) - 1))) I ((ρ.recv (.nilIface)).L 95 34 ++ F) := by
      rintro m i rfl
      have s1 := St.set (A := [(ρ.r, _)]) (B := F) (h.drew m) ρ.first (.nilIface)
      have s2 := St.set (A := []) s1 1 (.int .i64 (((ρ.first + 1) % ρ.n : Nat) : Int))
      have s3 := St.set (A := []) s2 2 (.int .i64 ((ρ.xs.length : Int) - 1))
      have e : ((ρ.xs.tail.length : Nat) : Int) = (ρ.xs.length : Int) - 1 := by rw [List.length_tail]; omega
      rw [Ring.recv, if_neg hx]
      simp only [Ring.L, e]
      simpa [Ring.L] using s3
    have Hst := Lib.hid hst; clear hst
    obtain ⟨idx, hidx⟩ : ∃ i, (ρ.first + 1) % ρ.n = i := ⟨_, rfl⟩
    have Hidx := Lib.hid hidx; clear hidx
    have Hp := Lib.hid hp; clear hp
    have Hx := Lib.hid hx; clear hx
    have Ea := Lib.hid ea; clear ea
    go_enter Tryd.func36, Tryd.ntmps36
    go_wp2_with ((go_at_call 61; refine Hp.out.mono ?_; rintro e w' ⟨rfl, m, rfl⟩))
    go_region_held3 (fun w' => w'.cell? ⟨ρ.r, 0, none⟩ = some (.slice (some ⟨ρ.ab, 0, none⟩) ρ.n ρ.n) ∧ w'.cell? ⟨ρ.r, 1, none⟩ = some (.int .i64 ρ.first)) (simp [*, World.cell?_setCell_far, Ne.symm hne]) (fail)
    go_wp2_with ((go_at_call 35; refine (place_nt _ ρ.r ρ.ab ρ.n ρ.first 1 idx b4 b5 b6 (by omega) Hidx (by simp [*, World.cell?_setCell_far, Ne.symm hne]) (by simp [*, World.cell?_setCell_far, Ne.symm hne])).mono ?_; rintro e w' ⟨rfl, m, rfl⟩))
    go_ret2
    exact ⟨rfl, (Hst.out 0 _ Hidx.out.symm).as rfl rfl rfl rfl⟩

set_option maxHeartbeats 400000 in
theorem new_nt (room : Int) {W w : World} {I : Nat → Option Obj} {F : List (Nat × Obj)} (h : St W w I F) :
    Calls Tryd.prog 9 #[.int .i64 room] w fun e w' => e = .returned (.pointer (some ⟨w.heap.size + 1, 0, none⟩)) ∧ St W w' I ((Ring.fresh (w.heap.size + 1) w.heap.size (roomOf room) (.nilIface)).L 95 34 ++ F) := by
  have hn : roomOf room ≤ 16 := by unfold roomOf; omega
  have he : (max 1 (min room 16) : Int) = (roomOf room : Int) := by unfold roomOf; omega
  have hmk := run_make_repl (P := Tryd.prog) 32 34 (.nilIface) 16 Tryd.underlying32 (by kernel_rfl) rfl (roomOf room) (by omega) (by omega)
  have hst : St W ((w.alloc (.cells (Array.replicate (roomOf room) (.nilIface)) 34)).alloc (.cells #[.slice (some ⟨w.heap.size, 0, none⟩) (roomOf room) (roomOf room), .int .i64 0, .int .i64 0, .bool false] 95)) I ((Ring.fresh (w.heap.size + 1) w.heap.size (roomOf room) (.nilIface)).L 95 34 ++ F) := by
    have := (h.alloc (.cells (Array.replicate (roomOf room) (.nilIface)) 34)).alloc (.cells #[.slice (some ⟨w.heap.size, 0, none⟩) (roomOf room) (roomOf room), .int .i64 0, .int .i64 0, .bool false] 95)
    simpa [Ring.L, Ring.fresh] using this
  have Hst := Lib.hid hst; clear hst
  generalize roomOf room = n at *
  go_enter Tryd.func9, Tryd.ntmps9
  go_wp2_with fail
  go_ret
  exact ⟨rfl, Hst.out⟩

theorem new_nt' (room : Int) {W w : World} {I : Nat → Option Obj} {F : List (Nat × Obj)} (h : St W w I F) :
    Calls Tryd.prog 9 #[.int .i64 room] w fun e w' => ∃ ρ : Ring, ρ.New (roomOf room) ∧ e = .returned (.pointer (some ⟨ρ.r, 0, none⟩)) ∧ St W w' I (ρ.L 95 34 ++ F) :=
  (new_nt room h).mono fun _ _ ⟨he, hs⟩ => ⟨_, Ring.fresh_new _ _ room _, he, hs⟩

set_option maxHeartbeats 400000 in
theorem len_nt (ρ : Ring) {W w : World} {I : Nat → Option Obj} {F : List (Nat × Obj)} (h : St W w I (ρ.L 95 34 ++ F)) :
    Calls Tryd.prog 23 #[.pointer (some ⟨ρ.r, 0, none⟩)] w fun e w' => e = .returned (.int .i64 (ρ.xs.length : Int)) ∧ w = w' := by
  have h2 := Ring.c2 h
  go_enter Tryd.func23, Tryd.ntmps23
  go_wp2_with fail
  go_ret
  exact ⟨rfl, rfl⟩
end
end Go.Proofs.YtnhlpiomfljlcaaDoor
