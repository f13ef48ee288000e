/- ring.All: the iterator over a ring of strings. -/
import Derived.Test.YtlhplndngfffoaaBoth
import Derived.RangeFuncNested
import Derived.RangeFuncBound
import Derived.RangeFuncCalls
import Derived.RangeFuncLeaves
import Derived.RangeFuncFrom
import Derived.Shelf.Abstract
import Derived.Shelf.RegionOpen
import Derived.WalkKit
import Derived.OwnWalkIn
import Derived.TacticsInMore
import Derived.LoopNIn
import Derived.LoopIn
namespace Go.Proofs.Ytlhplndngfffoaa
set_option linter.unusedVariables false
set_option linter.unusedSimpArgs false
open Go.RowKit Go.Shelf
attribute [local go_sem] Oper.semAt_some

/-- What has come when k rounds are over. -/
def upto {α : Type} (f : Nat → α) (k : Nat) : List α := (List.range k).map f
theorem upto_succ {α : Type} (f : Nat → α) (k : Nat) : upto f (k + 1) = upto f k ++ [f k] := by simp [upto, List.range_succ]
theorem upto_length {α : Type} (f : Nat → α) (k : Nat) : (upto f k).length = k := by simp [upto]

/-- What a round of ours keeps: three blocks. -/
def Kr (r ab Bs : Nat) (A B : World) : Prop := ∀ b, b = r ∨ b = ab ∨ b = Bs → B.heap[b]? = A.heap[b]?
theorem Kr_t {r ab Bs : Nat} {A B C : World} (h : Kr r ab Bs A B) (k : Kr r ab Bs B C) : Kr r ab Bs A C := fun b hb => (k b hb).trans (h b hb)
theorem Kr_b {r ab Bs N : Nat} (h1 : r < N) (h2 : ab < N) (h3 : Bs < N) (W : World) (l : Nat) (o o' : Obj) (hl : N ≤ l) (_h : W.heap[l]? = some o) (_h : o.isCells = false) (_h : o.isWalk = false) : Kr r ab Bs W (W.putObj l o') := fun b hb =>
  World.putObj_heap_other (by omega)

/-- A ring, and the box that the iterator holds. -/
structure RingAt (ρ : Ring) (Bs : Nat) (W : World) : Prop where
  r : W.heap[ρ.r]? = some (.cells #[.slice (some ⟨ρ.ab, 0, none⟩) ρ.n ρ.n, .int .i64 ρ.first, .int .i64 ρ.xs.length, .bool ρ.closed] 89 (0, 0))
  ab : W.heap[ρ.ab]? = some (.cells ρ.arr 9 (0, 0))
  box : W.heap[Bs]? = some (.cells #[.pointer (some ⟨ρ.r, 0, none⟩)] 52 (0, 0))
theorem RingAt.kept {ρ : Ring} {Bs : Nat} {A B : World} (h : RingAt ρ Bs A) (k : Kr ρ.r ρ.ab Bs A B) : RingAt ρ Bs B :=
  ⟨(k _ (.inl rfl)).trans h.r, (k _ (.inr (.inl rfl))).trans h.ab, (k _ (.inr (.inr rfl))).trans h.box⟩
theorem RingAt.drew {ρ : Ring} {Bs : Nat} {A : World} (h : RingAt ρ Bs A) (m : Nat) : RingAt ρ Bs (A.drewN m) := ⟨h.r, h.ab, h.box⟩

/-- What a round has left. -/
def YPost (J Jx : List (Nat × ByteArray) → World → Prop) (ρ : Ring) (Bs : Nat) (pre : List (Nat × ByteArray)) (x : Nat × ByteArray) (W : World) : Bool → World → Prop
  | true, W' => J (pre ++ [x]) W' ∧ Kr ρ.r ρ.ab Bs W W'
  | false, W' => Jx (pre ++ [x]) W'

set_option maxRecDepth 100000 in
set_option maxHeartbeats 1000000 in
theorem all1_in (n : Nat) (hn : 1 ≤ n) (l Bs : Nat) (ρ : Ring) (ok : ρ.Ok) (xs : List ByteArray) (hxs : ρ.xs = strs xs) (J Jx : List (Nat × ByteArray) → World → Prop) (hJd : ∀ pre W m, J pre W → J pre (W.drewN m))
    (hY : ∀ pre x W, J pre W → pre.length < xs.length → YieldAt Fence.wide (n - 1) Try.prog l #[.int .i64 (x.1 : Int), .string x.2] W fun e W' =>
      (e = .returned (.bool true) ∧ J (pre ++ [x]) W' ∧ Kr ρ.r ρ.ab Bs W W') ∨ (e = .returned (.bool false) ∧ Jx (pre ++ [x]) W'))
    (W : World) (hR : RingAt ρ Bs W) (h0 : J [] W) :
    CallsIn Fence.wide n Try.prog 51 #[.func (.yield l) #[] #[], .pointer (some ⟨Bs, 0, none⟩)] W fun e W' => (∃ v, e = .returned v) ∧
      ((∃ ys, ys = upto (fun j => (j, xs[j]?.getD ⟨#[]⟩)) xs.length ∧ J ys W') ∨ (∃ pre, (∃ k, k ≤ xs.length ∧ pre = upto (fun j => (j, xs[j]?.getD ⟨#[]⟩)) k) ∧ Jx pre W')) := by
  have hlen : ρ.xs.length = xs.length := by rw [hxs]; simp [strs]
  have n16 := ok.n16
  have n1 := ok.n1
  have hf := ok.f
  have hmany := ok.many
  have cells : ∀ wr, RingAt ρ Bs wr → wr.cell? ⟨Bs, 0, none⟩ = some (.pointer (some ⟨ρ.r, 0, none⟩)) ∧ wr.cell? ⟨ρ.r, 0, none⟩ = some (.slice (some ⟨ρ.ab, 0, none⟩) ρ.n ρ.n) ∧ wr.cell? ⟨ρ.r, 1, none⟩ = some (.int .i64 ρ.first) ∧ wr.cell? ⟨ρ.r, 2, none⟩ = some (.int .i64 xs.length) ∧
      (∀ k, k < xs.length → wr.cell? ⟨ρ.ab, (ρ.first + k) % ρ.n, none⟩ = some (.string (xs[k]?.getD ⟨#[]⟩))) := fun wr h =>
    ⟨cell_of_row wr _ 0 _ _ _ h.box, cell_of_row wr _ 0 _ _ _ h.r, cell_of_row wr _ 1 _ _ _ h.r, by rw [cell_of_row wr _ 2 _ _ _ h.r, ← hlen]; rfl, fun k hk => by
      rw [cell_of_row wr _ _ _ _ _ h.ab]
      refine ok.at_ k _ ?_
      rw [hxs, strs, List.getElem?_map, List.getElem?_eq_getElem hk]
      rfl⟩
  have CELLS := Lib.hid cells
  obtain ⟨b1, r0, r1, r2, _⟩ := cells W hR
  refine callsIn_of_wp Try.func51 rfl trivial ?_ rfl
  simp only [Try.ntmps51, List.size_toArray, List.length_cons, List.length_nil, Nat.reduceAdd, Nat.reduceSub, Array.replicate_succ, Array.replicate_zero, List.push_toArray, List.append_toArray, List.nil_append, List.cons_append]
  gi_wp2
  clear b1 r0 r1 r2 cells
  gi_loopw [8] (fun i wr => ∃ k : Nat, k ≤ xs.length ∧ i = .int .i64 k ∧ J (upto (fun j => (j, xs[j]?.getD ⟨#[]⟩)) k) wr ∧ RingAt ρ Bs wr) (fun i _ => xs.length - (intOf i).toNat)
  case atStart => exact ⟨0, Nat.zero_le _, rfl, h0, hR⟩
  case round =>
    obtain ⟨k, hk, rfl, hJs, hr⟩ := hrel
    clear h0 hR
    by_cases hlt : k < xs.length
    · obtain ⟨b1, r0, r1, r2, ra⟩ := CELLS.out wr hr
      have ra := ra k hlt
      obtain ⟨sx, hsx⟩ : ∃ sx, xs[k]?.getD ⟨#[]⟩ = sx := ⟨_, rfl⟩
      rw [hsx] at ra
      have HSX := Lib.hid hsx
      clear hsx
      obtain ⟨idx, hidx⟩ : ∃ idx, (ρ.first + k) % ρ.n = idx := ⟨_, rfl⟩
      rw [hidx] at ra
      have hil : idx < ρ.n := by rw [← hidx]; exact Nat.mod_lt _ (by omega)
      have HI := Lib.hid hidx
      have hJn : ∀ m, J (upto (fun j => (j, xs[j]?.getD ⟨#[]⟩)) k) (wr.drewN m) := fun m => hJd _ _ m hJs
      have kp : Calls Try.prog 50 #[.pointer (some ⟨ρ.r, 0, none⟩), .int .i64 k] wr.drew fun e w' => e = .returned (.int .i64 (idx : Int)) ∧ RingAt ρ Bs w' ∧ w'.cell? ⟨Bs, 0, none⟩ = some (.pointer (some ⟨ρ.r, 0, none⟩)) ∧ w'.cell? ⟨ρ.r, 0, none⟩ = some (.slice (some ⟨ρ.ab, 0, none⟩) ρ.n ρ.n) ∧ w'.cell? ⟨ρ.ab, idx, none⟩ = some (.string (sx)) ∧
          YieldAt Fence.wide (n - 1) Try.prog l #[.int .i64 (k : Int), .string (sx)] w' fun e W' => ∃ b, e = .returned (.bool b) ∧ YPost J Jx ρ Bs (upto (fun j => (j, xs[j]?.getD ⟨#[]⟩)) k) (k, sx) w' b W' := by
        refine (place_str (wr.drewN 1) ρ.r ρ.ab ρ.n ρ.first k idx (by omega) n16 (by omega) (by omega) HI (by exact r0) (by exact r1)).mono ?_
        rintro e w' ⟨rfl, q, rfl⟩
        refine ⟨rfl, (hr.drew 1).drew q, b1, r0, ra, ?_⟩
        refine YieldAt.mono (hY _ (k, sx) _ (hJd _ _ q (hJn 1)) (by rw [upto_length]; exact hlt)) ?_
        rintro e W' (⟨rfl, h1, h2⟩ | ⟨rfl, h1⟩)
        · exact ⟨true, rfl, h1, h2⟩
        · exact ⟨false, rfl, h1⟩
      have KP := Lib.hid kp
      clear hidx kp hJn
      gi_wp2
      gi_region_with (first
        | (refine ⟨trivial, ?_⟩; gi_at_call 50; refine (callsIn_wide.2 KP.out).mono ?_; rintro e w' ⟨rfl, hrw, d1, d2, d3, fn, tmps, assign, body, hy, hR⟩)
        | (refine hR.mono ?_; rintro e W3 ⟨b, rfl, hb⟩))
      all_goals
        cases b with
        | true =>
          obtain ⟨hJ3, hk3⟩ := hb
          gi_wp2
          go_roundw
          case rel => exact ⟨k + 1, by omega, by simp, by rw [upto_succ, HSX.out]; exact hJ3, hrw.kept hk3⟩
          case measure => simp [intOf]; omega
        | false =>
          have hJx3 : Jx _ _ := hb
          gi_wp2
          refine bodyPost_ret (results_none rfl _ _ _) rfl ?_
          exact ⟨⟨_, rfl⟩, .inr ⟨_, ⟨k + 1, by omega, by rw [upto_succ, HSX.out]⟩, hJx3⟩⟩
    · obtain rfl : k = xs.length := by omega
      gi_wp2
      go_end0
      exact ⟨⟨_, rfl⟩, .inl ⟨_, rfl, hJs⟩⟩
end Go.Proofs.Ytlhplndngfffoaa
