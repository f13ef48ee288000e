/- One step of the loader as data: what turns, and what does not. -/
import Derived.Test.YtnhlpiomfljlcaaDoorLgrT
namespace Go.Proofs.YtnhlpiomfljlcaaDoor
set_option linter.unusedVariables false
set_option linter.unusedSimpArgs false
open Go.RowKit Go.Lib

structure Out1 (q r : LQ) : Prop where
  l0 : r.left ≤ q.left
  l1 : q.left ≤ r.left + 1
  o0 : q.out.length ≤ r.out.length
  o1 : r.out.length ≤ q.out.length + 1
  c1 : r.cnt ≤ q.cnt + 1
  n1 : q.inn.length ≤ r.inn.length + 1
  n0 : r.inn.length ≤ q.inn.length
  e : r.err = 191 → r.left = 0
  it : r.err = 0 → r.left = q.left → r.out.length = q.out.length → r.inn.length ≠ q.inn.length
  fs : r.fs.length ≤ q.fs.length
theorem follow_out (q : LQ) (t : Nt) (he : q.err = 0) : (q.followQ t).left ≤ q.left ∧ q.left ≤ (q.followQ t).left + 1 ∧ (q.followQ t).out = q.out ∧ (q.followQ t).cnt = q.cnt ∧ (q.followQ t).inn = q.inn ∧ ((q.followQ t).err = 191 → (q.followQ t).left = 0) ∧ (q.followQ t).fs = q.fs := by
  have T : ∀ (r : LQ), r.left ≤ q.left → q.left ≤ r.left + 1 → r.out = q.out → r.cnt = q.cnt → r.inn = q.inn → (r.err = 191 → r.left = 0) → r.fs = q.fs → r.left ≤ q.left ∧ q.left ≤ r.left + 1 ∧ r.out = q.out ∧ r.cnt = q.cnt ∧ r.inn = q.inn ∧ (r.err = 191 → r.left = 0) ∧ r.fs = q.fs :=
    fun r a b c d e f g => ⟨a, b, c, d, e, f, g⟩
  have same : ∀ x : Int, x ≠ 191 → ({ q with err := x } : LQ).err = 191 → ({ q with err := x } : LQ).left = 0 := fun x hx h => absurd h hx
  cases t with
  | again a =>
    simp only [LQ.followQ]
    split
    · split
      · rename_i h0
        exact T { q with err := 191 } (Nat.le_refl _) (Nat.le_succ _) rfl rfl rfl (fun _ => h0) rfl
      · exact T { q with left := q.left - 1, wants := a } (Nat.sub_le _ _) (by show q.left ≤ q.left - 1 + 1; omega) rfl rfl rfl (fun h => absurd (he.symm.trans h) (by decide)) rfl
    · exact T { q with err := 192 } (Nat.le_refl _) (Nat.le_succ _) rfl rfl rfl (same 192 (by decide)) rfl
  | go h m =>
    simp only [LQ.followQ]
    split
    · exact T { q with known := some (h, m), wants := 0 } (Nat.le_refl _) (Nat.le_succ _) rfl rfl rfl (fun h => absurd (he.symm.trans h) (by decide)) rfl
    · exact T { q with err := 192 } (Nat.le_refl _) (Nat.le_succ _) rfl rfl rfl (same 192 (by decide)) rfl
  | body v => exact T { q with err := 192 } (Nat.le_refl _) (Nat.le_succ _) rfl rfl rfl (same 192 (by decide)) rfl
  | fin v => exact T { q with err := 192 } (Nat.le_refl _) (Nat.le_succ _) rfl rfl rfl (same 192 (by decide)) rfl
/-- A step that does something. -/
theorem step_out (q : LQ) (o : Option (List UInt8)) (n : Nat) (he : q.err = 0) (hd : (q.stepQ o n).1 = true) : Out1 q (q.stepQ o n).2 := by
  cases hq : q.inn with
  | cons t rest =>
    rw [stepQ_told o he hq] at hd ⊢
    obtain ⟨h1, h2, h3, h4, h5, h6, h7⟩ := follow_out ({ q with inn := rest } : LQ) t he
    have e3 : (({ q with inn := rest } : LQ).followQ t).out = q.out := h3
    have e5 : (({ q with inn := rest } : LQ).followQ t).inn = rest := h5
    have hl : q.inn.length = rest.length + 1 := by rw [hq]; rfl
    exact ⟨h1, h2, by rw [e3]; exact Nat.le_refl _, by rw [e3]; exact Nat.le_succ _, by rw [h4]; exact Nat.le_succ _, by rw [e5]; omega, by rw [e5]; omega, h6, fun _ _ _ => by rw [e5]; omega, by rw [h7]; exact Nat.le_refl _⟩
  | nil =>
    by_cases hc : q.wants = -2 ∨ n ≤ q.out.length
    · rw [stepQ_rest o he hq hc] at hd; cases hd
    · cases o with
      | none =>
        rw [stepQ_none he hq hc]
        exact ⟨Nat.le_refl _, Nat.le_succ _, Nat.le_refl _, Nat.le_succ _, Nat.le_succ _, Nat.le_succ _, Nat.le_refl _, fun h => absurd h (show (182 : Int) ≠ 191 by decide), fun h => absurd h (show (182 : Int) ≠ 0 by decide), Nat.le_refl _⟩
      | some bs =>
        have hfs : q.fs.tail.length ≤ q.fs.length := by rw [List.length_tail]; omega
        by_cases hx : (fetched bs (first q.fs) q.askQ.1 q.askQ.2).2 = 0
        · rw [stepQ_sent bs he hq hc hx]
          exact ⟨Nat.le_refl _, Nat.le_succ _, by simp, by simp, Nat.le_refl _, Nat.le_succ _, Nat.le_refl _, fun h => absurd (he.symm.trans h) (by decide), fun _ _ h => by simp at h, hfs⟩
        · rw [stepQ_lost bs he hq hc hx]
          by_cases h0 : q.left = 0
          · have e : ({ q with fs := q.fs.tail, cnt := q.cnt + 1 } : LQ).tryQ = { q with fs := q.fs.tail, cnt := q.cnt + 1, err := 191 } := if_pos h0
            rw [e]
            exact ⟨Nat.le_refl _, Nat.le_succ _, Nat.le_refl _, Nat.le_succ _, Nat.le_refl _, Nat.le_succ _, Nat.le_refl _, fun _ => h0, fun h => absurd h (show (191 : Int) ≠ 0 by decide), hfs⟩
          · have e : ({ q with fs := q.fs.tail, cnt := q.cnt + 1 } : LQ).tryQ = { q with fs := q.fs.tail, cnt := q.cnt + 1, left := q.left - 1 } := if_neg h0
            rw [e]
            exact ⟨Nat.sub_le _ _, by show q.left ≤ q.left - 1 + 1; omega, Nat.le_refl _, Nat.le_succ _, Nat.le_refl _, Nat.le_succ _, Nat.le_refl _, fun h => absurd (he.symm.trans h) (by decide), fun _ h => absurd h (show q.left - 1 ≠ q.left by omega), hfs⟩
theorem step_same (q : LQ) (o : Option (List UInt8)) (n : Nat) (hd : (q.stepQ o n).1 = false) : (q.stepQ o n).2 = q := by
  by_cases he : q.err = 0
  · cases hq : q.inn with
    | cons t rest => rw [stepQ_told o he hq] at hd; cases hd
    | nil =>
      by_cases hc : q.wants = -2 ∨ n ≤ q.out.length
      · rw [stepQ_rest o he hq hc]
      · cases o with
        | none => rw [stepQ_none he hq hc] at hd; cases hd
        | some bs =>
          by_cases hx : (fetched bs (first q.fs) q.askQ.1 q.askQ.2).2 = 0
          · rw [stepQ_sent bs he hq hc hx] at hd; cases hd
          · rw [stepQ_lost bs he hq hc hx] at hd; cases hd
  · rw [stepQ_err o he]
theorem step_stays (q : LQ) (o : Option (List UInt8)) (n : Nat) (he : q.err ≠ 0) : q.stepQ o n = (false, q) := stepQ_err o he
section
variable {W : World}
theorem x_offin (x : WArg W) {l : List Dn} (hs : Small x l) : OffIn x.OA x.os W (fun b => W.heap[b]?) := by
  refine ⟨fun k o hk => x.off k o hk, fun o ho => by have := (hs.off o ho).1; omega, fun o ho => ?_⟩
  obtain ⟨_, h1, h2, h3⟩ := x.oin o ho
  exact ⟨h1, h2, h3, by have := (hs.off o ho).2; omega⟩
theorem OffIn.mono {J J' : Nat → Option Obj} {A : Option Addr} {os : List (ByteArray × Part)} (h : OffIn A os W J) (hle : Le J J') : OffIn A os W J' :=
  ⟨fun k o hk => let ⟨b, off, h1, h2, h3⟩ := h.at_ k o hk; ⟨b, off, h1, roCell_mono hle h2, roCell_mono hle h3⟩, h.name, fun o ho => (h.ok o ho).mono hle⟩
end
end Go.Proofs.YtnhlpiomfljlcaaDoor
