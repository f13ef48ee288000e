/- What a ring is in memory, and what its functions make of it. -/
import Derived.Test.YtlhplndngfffoaaRows
import Derived.Test.YtlhplndngfffoaaBase
import Derived.Deep.RegionHeld3
namespace Go.Proofs.Ytlhplndngfffoaa
set_option linter.unusedVariables false
set_option linter.unusedSimpArgs false
open Go.RowKit

structure Ring where
  r : Nat
  ab : Nat
  n : Nat
  first : Nat
  arr : Array Value
  xs : List Value
  closed : Bool

structure Ring.Ok (ρ : Ring) : Prop where
  n1 : 1 ≤ ρ.n
  n16 : ρ.n ≤ 16
  f : ρ.first < ρ.n
  size : ρ.arr.size = ρ.n
  many : ρ.xs.length ≤ ρ.n
  at_ : ∀ k v, ρ.xs[k]? = some v → ρ.arr[(ρ.first + k) % ρ.n]? = some v
  shut : ρ.closed = true → ρ.xs = []

def Ring.L (T E : TypeId) (ρ : Ring) : List (Nat × Obj) :=
  [(ρ.r, .cells #[.slice (some ⟨ρ.ab, 0, none⟩) ρ.n ρ.n, .int .i64 ρ.first, .int .i64 ρ.xs.length, .bool ρ.closed] T (0, 0)), (ρ.ab, .cells ρ.arr E (0, 0))]

def Ring.room (ρ : Ring) : Nat := if ρ.closed then 0 else ρ.n - ρ.xs.length

def Ring.send (ρ : Ring) (v : Value) : Ring := { ρ with arr := ρ.arr.setIfInBounds ((ρ.first + ρ.xs.length) % ρ.n) v, xs := ρ.xs ++ [v] }
def Ring.recv (ρ : Ring) (z : Value) : Ring := if ρ.xs = [] then ρ else { ρ with arr := ρ.arr.setIfInBounds ρ.first z, first := (ρ.first + 1) % ρ.n, xs := ρ.xs.tail }
def Ring.can (ρ : Ring) : Bool := decide (0 < ρ.room)
def Ring.put (ρ : Ring) (v : Value) : Ring := if 0 < ρ.room then ρ.send v else ρ
def Ring.front (ρ : Ring) (z : Value) : Value := ρ.xs.headD z
def Ring.any (ρ : Ring) : Bool := !ρ.xs.isEmpty
def Ring.close (ρ : Ring) (z : Value) : Ring := { ρ with arr := Array.replicate ρ.n z, first := 0, xs := [], closed := true }

theorem mod_ne {f a b n : Nat} (_hf : f < n) (ha : a < n) (hb : b < n) (hne : a ≠ b) : (f + a) % n ≠ (f + b) % n := by
  intro h
  have e1 : (f + a) % n = if f + a < n then f + a else f + a - n := by
    split
    · exact Nat.mod_eq_of_lt ‹_›
    · rw [Nat.mod_eq_sub_mod (by omega), Nat.mod_eq_of_lt (by omega)]
  have e2 : (f + b) % n = if f + b < n then f + b else f + b - n := by
    split
    · exact Nat.mod_eq_of_lt ‹_›
    · rw [Nat.mod_eq_sub_mod (by omega), Nat.mod_eq_of_lt (by omega)]
  rw [e1, e2] at h
  split at h <;> split at h <;> omega

theorem Ring.send_ok {ρ : Ring} (ok : ρ.Ok) (v : Value) (h : ρ.xs.length < ρ.n) (hc : ρ.closed = false) : (ρ.send v).Ok := by
  refine ⟨ok.n1, ok.n16, ok.f, by simp [Ring.send, ok.size], by simp [Ring.send]; omega, ?_, by simp [Ring.send, hc]⟩
  intro k u hk
  simp only [Ring.send] at hk ⊢
  by_cases hlt : k < ρ.xs.length
  · rw [List.getElem?_append_left hlt] at hk
    have := mod_ne ok.f (a := ρ.xs.length) (b := k) h (by omega) (by omega)
    rw [Array.getElem?_setIfInBounds_ne this]
    exact ok.at_ k u hk
  · have hke : k = ρ.xs.length := by
      have := (List.getElem?_eq_some_iff.1 hk).1
      simp at this
      omega
    subst hke
    simp at hk
    subst hk
    have : (ρ.first + ρ.xs.length) % ρ.n < ρ.arr.size := by rw [ok.size]; exact Nat.mod_lt _ (by have := ok.n1; omega)
    simp [this]

theorem Ring.can_yes {ρ : Ring} (h : 0 < ρ.room) : ρ.can = true := by simp [Ring.can, h]
theorem Ring.can_no {ρ : Ring} (h : ¬ 0 < ρ.room) : ρ.can = false := by simp [Ring.can]; omega
theorem Ring.put_yes {ρ : Ring} (h : 0 < ρ.room) (v : Value) : ρ.put v = ρ.send v := by simp [Ring.put, h]
theorem Ring.put_no {ρ : Ring} (h : ¬ 0 < ρ.room) (v : Value) : ρ.put v = ρ := if_neg h
theorem Ring.put_ok {ρ : Ring} (ok : ρ.Ok) (v : Value) : (ρ.put v).Ok := by
  by_cases h : 0 < ρ.room
  · rw [Ring.put_yes h]
    unfold Ring.room at h
    cases hc : ρ.closed
    · rw [hc] at h; simp at h; exact Ring.send_ok ok v (by omega) hc
    · rw [hc] at h; simp at h
  · rw [Ring.put_no h]; exact ok

theorem Ring.recv_ok {ρ : Ring} (ok : ρ.Ok) (z : Value) : (ρ.recv z).Ok := by
  unfold Ring.recv
  split
  · exact ok
  · rename_i hne
    have h1 := ok.n1
    have hl : 0 < ρ.xs.length := by cases h : ρ.xs with | nil => exact absurd h hne | cons _ _ => simp
    have hm := ok.many
    refine ⟨h1, ok.n16, Nat.mod_lt _ h1, by simp [ok.size], by simp; omega, ?_, ?_⟩
    · intro k u hk
      simp only at hk ⊢
      rw [List.getElem?_tail] at hk
      have hk1 := (List.getElem?_eq_some_iff.1 hk).1
      have e : ((ρ.first + 1) % ρ.n + k) % ρ.n = (ρ.first + (k + 1)) % ρ.n := by
        rw [Nat.mod_add_mod]
        congr 1
        omega
      rw [e]
      have hne' := mod_ne ok.f (a := 0) (b := k + 1) (by omega) (by omega) (by omega)
      rw [Nat.add_zero, Nat.mod_eq_of_lt ok.f] at hne'
      rw [Array.getElem?_setIfInBounds_ne hne']
      exact ok.at_ _ u hk
    · intro hc
      exact absurd (ok.shut hc) hne

theorem Ring.close_ok {ρ : Ring} (ok : ρ.Ok) (z : Value) : (ρ.close z).Ok :=
  ⟨ok.n1, ok.n16, by have := ok.n1; simp [Ring.close]; omega, by simp [Ring.close], by simp [Ring.close], by simp [Ring.close], by simp [Ring.close]⟩

/-- Of how many. -/
def roomOf (room : Int) : Nat := (max 1 (min room 16)).toNat
def Ring.fresh (r ab n : Nat) (z : Value) : Ring := ⟨r, ab, n, 0, Array.replicate n z, [], false⟩
theorem Ring.fresh_ok (r ab : Nat) (room : Int) (z : Value) : (Ring.fresh r ab (roomOf room) z).Ok := by
  have h : 1 ≤ roomOf room ∧ roomOf room ≤ 16 := by unfold roomOf; omega
  exact ⟨h.1, h.2, by simp [Ring.fresh]; omega, by simp [Ring.fresh], by simp [Ring.fresh], by simp [Ring.fresh], by simp [Ring.fresh]⟩

/-- A ring of which nothing is known but how many find room. -/
structure Ring.New (ρ : Ring) (n : Nat) : Prop where
  ok : ρ.Ok
  n : ρ.n = n
  xs : ρ.xs = []
  closed : ρ.closed = false

theorem Ring.can_eq (ρ : Ring) (hc : ρ.closed = false) : ρ.can = decide (ρ.xs.length < ρ.n) := by
  unfold Ring.can Ring.room
  rw [hc]
  simp
  omega
theorem Ring.put_xs (ρ : Ring) (hc : ρ.closed = false) (v : Value) : (ρ.put v).xs = if ρ.xs.length < ρ.n then ρ.xs ++ [v] else ρ.xs := by
  unfold Ring.put Ring.room
  rw [hc]
  simp only [Bool.false_eq_true, if_false]
  by_cases h : ρ.xs.length < ρ.n
  · rw [if_pos (by omega), if_pos h]; rfl
  · rw [if_neg (by omega), if_neg h]
theorem Ring.put_n (ρ : Ring) (v : Value) : (ρ.put v).n = ρ.n := by unfold Ring.put; split <;> rfl
theorem Ring.put_r (ρ : Ring) (v : Value) : (ρ.put v).r = ρ.r := by unfold Ring.put; split <;> rfl
theorem Ring.put_closed (ρ : Ring) (v : Value) : (ρ.put v).closed = ρ.closed := by unfold Ring.put; split <;> rfl
theorem Ring.recv_n (ρ : Ring) (v : Value) : (ρ.recv v).n = ρ.n := by unfold Ring.recv; split <;> rfl
theorem Ring.recv_r (ρ : Ring) (v : Value) : (ρ.recv v).r = ρ.r := by unfold Ring.recv; split <;> rfl
theorem Ring.recv_closed (ρ : Ring) (v : Value) : (ρ.recv v).closed = ρ.closed := by unfold Ring.recv; split <;> rfl
theorem Ring.recv_xs (ρ : Ring) (v : Value) : (ρ.recv v).xs = ρ.xs.tail := by
  unfold Ring.recv
  split
  · rename_i h; rw [h]; rfl
  · rfl

section
variable {W w : World} {I : Nat → Option Obj} {F : List (Nat × Obj)} {T E : TypeId} {ρ : Ring}

theorem Ring.fresh_new (r ab : Nat) (room : Int) (z : Value) : (Ring.fresh r ab (roomOf room) z).New (roomOf room) := ⟨Ring.fresh_ok r ab room z, rfl, rfl, rfl⟩
theorem Ring.c0 (h : St W w I (ρ.L T E ++ F)) : w.cell? ⟨ρ.r, 0, none⟩ = some (.slice (some ⟨ρ.ab, 0, none⟩) ρ.n ρ.n) := h.cell (cs := #[.slice (some ⟨ρ.ab, 0, none⟩) ρ.n ρ.n, .int .i64 ρ.first, .int .i64 ρ.xs.length, .bool ρ.closed]) (by simp [Ring.L]; left; exact ⟨rfl, rfl⟩) 0
theorem Ring.c1 (h : St W w I (ρ.L T E ++ F)) : w.cell? ⟨ρ.r, 1, none⟩ = some (.int .i64 ρ.first) := h.cell (cs := #[.slice (some ⟨ρ.ab, 0, none⟩) ρ.n ρ.n, .int .i64 ρ.first, .int .i64 ρ.xs.length, .bool ρ.closed]) (by simp [Ring.L]; left; exact ⟨rfl, rfl⟩) 1
theorem Ring.c2 (h : St W w I (ρ.L T E ++ F)) : w.cell? ⟨ρ.r, 2, none⟩ = some (.int .i64 ρ.xs.length) := h.cell (cs := #[.slice (some ⟨ρ.ab, 0, none⟩) ρ.n ρ.n, .int .i64 ρ.first, .int .i64 ρ.xs.length, .bool ρ.closed]) (by simp [Ring.L]; left; exact ⟨rfl, rfl⟩) 2
theorem Ring.c3 (h : St W w I (ρ.L T E ++ F)) : w.cell? ⟨ρ.r, 3, none⟩ = some (.bool ρ.closed) := h.cell (cs := #[.slice (some ⟨ρ.ab, 0, none⟩) ρ.n ρ.n, .int .i64 ρ.first, .int .i64 ρ.xs.length, .bool ρ.closed]) (by simp [Ring.L]; left; exact ⟨rfl, rfl⟩) 3
theorem Ring.ca (h : St W w I (ρ.L T E ++ F)) (i : Nat) : w.cell? ⟨ρ.ab, i, none⟩ = ρ.arr[i]? := h.cell (cs := ρ.arr) (t := E) (fr := (0, 0)) (by simp [Ring.L]) i
theorem Ring.ne (h : St W w I (ρ.L T E ++ F)) : ρ.r ≠ ρ.ab := by
  have := h.nodup
  simp [Ring.L] at this
  exact this.1.1
theorem Ring.fr (h : St W w I (ρ.L T E ++ F)) (i : Nat) : w.frozen? ⟨ρ.r, i, none⟩ = false := h.frozen (t := T) (by simp [Ring.L]; left; rfl) i
theorem Ring.fa (h : St W w I (ρ.L T E ++ F)) (i : Nat) : w.frozen? ⟨ρ.ab, i, none⟩ = false := h.frozen (t := E) (cs := ρ.arr) (by simp [Ring.L]) i
end
end Go.Proofs.Ytlhplndngfffoaa
