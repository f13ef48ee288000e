/- A ring of strings and the reference's, step by step alike. -/
import Derived.Test.YtlhplndngfffoaaAlive
import Derived.Test.YtlhplndngfffoaaClose
import Derived.Test.YtlhplndngfffoaaRef
namespace Go.Proofs.Ytlhplndngfffoaa
set_option linter.unusedVariables false
set_option linter.unusedSimpArgs false
open Go.RowKit

structure Both (ρ : Ring) (σ : Ref) (r g n : Nat) : Prop where
  ok : ρ.Ok
  oks : σ.Ok
  r : ρ.r = r
  g : σ.g = g
  nn : ρ.n = n
  most : σ.most = n
  closed : ρ.closed = σ.closed
  xs : ρ.xs = strs σ.xs

def Ref.front (σ : Ref) : ByteArray := σ.xs.headD ⟨#[]⟩
def Ref.any (σ : Ref) : Bool := !σ.xs.isEmpty
def Ref.room (σ : Ref) : Nat := if σ.closed then 0 else σ.most - σ.xs.length

section
variable {ρ : Ring} {σ : Ref} {r g n : Nat}
theorem Both.len (h : Both ρ σ r g n) : ρ.xs.length = σ.xs.length := by rw [h.xs]; simp
theorem Both.room (h : Both ρ σ r g n) : ρ.room = σ.room := by rw [Ring.room, Ref.room, h.closed, h.len, h.nn, h.most]
theorem Both.any (h : Both ρ σ r g n) : ρ.any = σ.any := by rw [Ring.any, Ref.any, h.xs]; cases σ.xs <;> rfl
theorem Both.front (h : Both ρ σ r g n) : ρ.front (.string ⟨#[]⟩) = .string σ.front := by rw [Ring.front, Ref.front, h.xs]; cases σ.xs <;> rfl
theorem Both.recv (h : Both ρ σ r g n) {σ' : Ref} (ok' : σ'.Ok) (hg : σ'.g = σ.g) (hm : σ'.most = σ.most) (hc : σ'.closed = σ.closed) (hx : σ'.xs = σ.xs.tail) : Both (ρ.recv (.string ⟨#[]⟩)) σ' r g n :=
  ⟨Ring.recv_ok h.ok _, ok', by rw [Ring.recv_r, h.r], by rw [hg, h.g], by rw [Ring.recv_n, h.nn], by rw [hm, h.most], by rw [Ring.recv_closed, hc, h.closed], by rw [Ring.recv_xs, h.xs, hx, strs, strs, List.map_tail]⟩

variable {W w : World} {I : Nat → Option Obj} {F : List (Nat × Obj)}
theorem Both.cells (h : Both ρ σ r g n) (hs : St W w I (σ.L ++ F)) : ∃ A c, w.cell? ⟨g, 1, none⟩ = some (.slice A σ.xs.length c) ∧ w.cell? ⟨g, 2, none⟩ = some (.bool σ.closed) := by
  obtain ⟨A, c, hv⟩ := h.oks.row.shape
  have h1 := Ref.c1 hs
  have h2 := Ref.c2 hs
  rw [h.g] at h1 h2
  exact ⟨A, c, by rw [h1, hv], h2⟩
theorem Both.head (h : Both ρ σ r g n) (hs : St W w I (σ.L ++ F)) {x : ByteArray} {l : List ByteArray} (hx : σ.xs = x :: l) : ∃ g' off c, w.cell? ⟨g, 1, none⟩ = some (.slice (some ⟨g', off, none⟩) (l.length + 1) c) ∧ w.cell? ⟨g', off, none⟩ = some (.string x) := by
  obtain ⟨g', off, cap, cur, hv, hB, hcell⟩ := h.oks.row.cells (j := 0) (u := .string x) (by rw [hx]; rfl)
  have h1 := Ref.c1 hs
  rw [h.g, hv, hx] at h1
  refine ⟨g', off, cap, h1, ?_⟩
  rw [hs.cell (g := g') (cs := cur) (t := 9) (fr := (0, 0)) (by simp [Ref.L, hB]) off]
  simpa using hcell
theorem b_send (h : Both ρ σ r g n) (s : ByteArray) (hs : St W w I (ρ.L 89 9 ++ F)) : Calls Try.prog 26 #[.pointer (some ⟨r, 0, none⟩), .string s] w fun e w' => e = .returned (.bool ρ.can) ∧ St W w' I ((ρ.put (.string s)).L 89 9 ++ F) := by
  have := send_str ρ h.ok s hs
  rwa [h.r] at this
theorem b_ref_send (h : Both ρ σ r g n) (s : ByteArray) (hs : St W w I (σ.L ++ F)) : Calls Try.prog 34 #[.pointer (some ⟨g, 0, none⟩), .string s] w fun e w' => e = .returned (.bool ρ.can) ∧ ∃ σ', Both (ρ.put (.string s)) σ' r g n ∧ St W w' I (σ'.L ++ F) := by
  by_cases hr : 0 < ρ.room
  · have hr' := hr
    rw [h.room, Ref.room] at hr'
    have hc : σ.closed = false := by cases hc : σ.closed with
      | false => rfl
      | true => rw [hc] at hr'; simp at hr'
    rw [hc] at hr'
    simp at hr'
    have := ref_send σ h.oks s hs hc (by omega)
    rw [h.g] at this
    rw [Ring.can_yes hr]
    refine this.mono fun e w' ⟨he, σ', h1, h2, h3, h4, h5, h6⟩ => ⟨he, σ', ?_, h6⟩
    exact ⟨Ring.put_ok h.ok _, h1, by rw [Ring.put_r, h.r], h2, by rw [Ring.put_n, h.nn], by rw [h3, h.most], by rw [Ring.put_closed, h.closed, h4, hc], by rw [Ring.put_yes hr, Ring.send, h5]; simp [strs, h.xs]⟩
  · have hr' := hr
    rw [h.room, Ref.room] at hr'
    have hm := h.oks.many
    have hc : σ.closed = true ∨ σ.xs.length = σ.most := by
      cases hc : σ.closed
      · rw [hc] at hr'; simp at hr'; right; omega
      · exact .inl rfl
    have := ref_send_no σ h.oks s hs hc
    rw [h.g] at this
    rw [Ring.can_no hr, Ring.put_no hr]
    exact this.mono fun e w' ⟨he, m, hw⟩ => ⟨he, σ, h, by rw [hw]; exact hs.drew m⟩
theorem b_recv (h : Both ρ σ r g n) (hs : St W w I (ρ.L 89 9 ++ F)) : Calls Try.prog 28 #[.pointer (some ⟨r, 0, none⟩)] w fun e w' => e = .returned (.tuple #[.string σ.front, .bool σ.any]) ∧ St W w' I ((ρ.recv (.string ⟨#[]⟩)).L 89 9 ++ F) := by
  have := recv_str ρ h.ok hs
  rwa [h.r, h.front, h.any] at this
theorem b_peek (h : Both ρ σ r g n) (hs : St W w I (ρ.L 89 9 ++ F)) : Calls Try.prog 37 #[.pointer (some ⟨r, 0, none⟩)] w fun e w' => e = .returned (.tuple #[.string σ.front, .bool σ.any]) ∧ ∃ m, w' = w.drewN m := by
  have := peek_str ρ h.ok hs
  rwa [h.r, h.front, h.any] at this
theorem b_ref_recv (h : Both ρ σ r g n) (hs : St W w I (σ.L ++ F)) : Calls Try.prog 35 #[.pointer (some ⟨g, 0, none⟩)] w fun e w' => e = .returned (.tuple #[.string σ.front, .bool σ.any]) ∧ ∃ σ', Both (ρ.recv (.string ⟨#[]⟩)) σ' r g n ∧ St W w' I (σ'.L ++ F) := by
  cases hx : σ.xs with
  | nil =>
    have := ref_recv_no σ h.oks hs hx
    rw [h.g] at this
    refine this.mono fun e w' ⟨he, hw⟩ => ⟨by rw [he, Ref.front, Ref.any, hx]; rfl, σ, h.recv h.oks rfl rfl rfl (by rw [hx]; rfl), by rw [← hw]; exact hs⟩
  | cons x l =>
    have := ref_recv σ h.oks hs x l hx
    rw [h.g] at this
    exact this.mono fun e w' ⟨he, σ', h1, h2, h3, h4, h5, h6⟩ => ⟨by rw [he, Ref.front, Ref.any, hx]; rfl, σ', h.recv h1 (h2.trans h.g.symm) h3 h4 (by rw [h5, hx]; rfl), h6⟩
theorem b_close (h : Both ρ σ r g n) (hs : St W w I (ρ.L 89 9 ++ F)) : Calls Try.prog 27 #[.pointer (some ⟨r, 0, none⟩)] w fun e w' => e = .returned (.int .i64 (σ.xs.length : Int)) ∧ St W w' I ((ρ.close (.string ⟨#[]⟩)).L 89 9 ++ F) := by
  have := close_str ρ h.ok hs
  rwa [h.r, h.len] at this
theorem b_ref_close (h : Both ρ σ r g n) (hs : St W w I (σ.L ++ F)) : Calls Try.prog 36 #[.pointer (some ⟨g, 0, none⟩)] w fun e w' => e = .returned (.int .i64 (σ.xs.length : Int)) ∧ ∃ σ', Both (ρ.close (.string ⟨#[]⟩)) σ' r g n ∧ St W w' I (σ'.L ++ F) := by
  have := ref_close σ h.oks hs
  rw [h.g] at this
  exact this.mono fun e w' ⟨he, σ', h1, h2, h3, h4, h5, h6⟩ => ⟨he, σ', ⟨Ring.close_ok h.ok _, h1, by rw [Ring.close, h.r], h2, by rw [Ring.close, h.nn], by rw [h3, h.most], by rw [Ring.close, h4], by rw [Ring.close, h5]; rfl⟩, h6⟩
theorem b_len (h : Both ρ σ r g n) (hs : St W w I (ρ.L 89 9 ++ F)) : Calls Try.prog 31 #[.pointer (some ⟨r, 0, none⟩)] w fun e w' => e = .returned (.int .i64 (σ.xs.length : Int)) ∧ w = w' := by
  have := len_str ρ hs
  rwa [h.r, h.len] at this
theorem b_room (h : Both ρ σ r g n) (hs : St W w I (ρ.L 89 9 ++ F)) : Calls Try.prog 32 #[.pointer (some ⟨r, 0, none⟩)] w fun e w' => e = .returned (.int .i64 (σ.room : Int)) ∧ ∃ m, w' = w.drewN m := by
  have := room_str ρ h.ok hs
  rwa [h.r, h.room] at this
theorem b_ref_room (h : Both ρ σ r g n) (hs : St W w I (σ.L ++ F)) : Calls Try.prog 38 #[.pointer (some ⟨g, 0, none⟩)] w fun e w' => e = .returned (.int .i64 (σ.room : Int)) ∧ ∃ m, w' = w.drewN m := by
  have := ref_room σ h.oks hs
  rwa [h.g] at this
theorem b_closed (h : Both ρ σ r g n) (hs : St W w I (ρ.L 89 9 ++ F)) : Calls Try.prog 30 #[.pointer (some ⟨r, 0, none⟩)] w fun e w' => e = .returned (.bool σ.closed) ∧ w = w' := by
  have := closed_str ρ hs
  rwa [h.r, h.closed] at this
end
end Go.Proofs.Ytlhplndngfffoaa
