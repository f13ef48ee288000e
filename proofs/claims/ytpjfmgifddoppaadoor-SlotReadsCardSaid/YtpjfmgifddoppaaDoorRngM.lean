/- Ranges over a function: what the memory's assertion asks. slices.Chunk of bytes: the iterator. -/
import Derived.Test.YtpjfmgifddoppaaDoorFrz
import Derived.RangeFuncNested
import Derived.RangeFuncBound
import Derived.RangeFuncCalls
import Derived.RangeFuncLeaves
import Derived.RangeFuncFrom
import Derived.Shelf.Abstract
import Derived.Shelf.RegionOpen
import Derived.WalkKit
import Derived.OwnWalkIn
import Derived.TacticsInMore
import Derived.LoopNIn
import Derived.LoopIn
namespace Go.Proofs.YtpjfmgifddoppaaDoor
section
set_option linter.unusedVariables false
set_option linter.unusedSimpArgs false
open Go.RowKit Go.Lib Go.Shelf

section
variable {W w w' : World} {I : Nat → Option Obj} {L F : List (Nat × Obj)}
/-- Another's block turned, or new ones were laid. -/
theorem St.grown {B : Nat} {row : Option Nat} (h : St W w I L) (hI : ∀ b o, I b = some o → b < B) (hL : ∀ p ∈ L, p.1 < B ∨ p.2.isCells = true) (hg : w.grownBy w' row) (hr : ∀ r, row = some r → B ≤ r ∧ ∃ o : Obj, w.heap[r]? = some o ∧ o.isCells = false) : St W w' I L :=
  ⟨hg.os.trans h.os, hg.tape.trans h.tape, hg.output.trans h.output, fun p hp => (hg.block p.1 (h.lt hp) (fun e => by
      obtain ⟨h1, o, h2, h3⟩ := hr _ e.symm
      rcases hL p hp with h4 | h4
      · omega
      · rw [h.own p hp] at h2
        cases h2
        rw [h4] at h3
        cases h3)).trans (h.own p hp), h.nodup,
   fun b o hb => (hg.block b (Array.getElem?_eq_some_iff.1 (h.imm b o hb)).1 (fun e => by have := (hr _ e.symm).1; have := hI b o hb; omega)).trans (h.imm b o hb), h.apart⟩
theorem St.ilt (h : St W w I L) (b : Nat) (o : Obj) (hb : I b = some o) : b < w.heap.size := (Array.getElem?_eq_some_iff.1 (h.imm b o hb)).1
open Classical in
/-- All that isn't ours stays, too. -/
theorem St.others (h : St W w I L) : ∃ J, Le I J ∧ (∀ b o, w.heap[b]? = some o → (∀ p ∈ L, p.1 ≠ b) → J b = some o) ∧ St W w J L := by
  refine ⟨fun b => if ∃ p ∈ L, p.1 = b then none else w.heap[b]?, ?_, ?_, ⟨h.os, h.tape, h.output, h.own, h.nodup, ?_, ?_⟩⟩
  · intro b o hb
    have h1 := h.imm b o hb
    have h2 : ¬ ∃ p ∈ L, p.1 = b := by
      rintro ⟨p, hp, rfl⟩
      rw [h.apart p hp] at hb
      cases hb
    simp only [if_neg h2, h1]
  · intro b o ho hn
    have h2 : ¬ ∃ p ∈ L, p.1 = b := by
      rintro ⟨p, hp, he⟩
      exact hn p hp he
    simp only [if_neg h2, ho]
  · intro b o hb
    split at hb
    · cases hb
    · exact hb
  · intro p hp
    have h2 : ∃ q ∈ L, q.1 = p.1 := ⟨p, hp, rfl⟩
    simp only [if_pos h2]
theorem St.size_le {J : Nat → Option Obj} {L2 : List (Nat × Obj)} (hall : ∀ b o, w.heap[b]? = some o → (∀ p ∈ L, p.1 ≠ b) → J b = some o) (hk : ∀ p ∈ L, ∃ q ∈ L2, q.1 = p.1) (h' : St W w' J L2) : w.heap.size ≤ w'.heap.size := by
  rcases Nat.eq_zero_or_pos w.heap.size with h0 | h0
  · omega
  · have h1 : w.heap[w.heap.size - 1]? = some (w.heap[w.heap.size - 1]'(by omega)) := Array.getElem?_eq_getElem _
    by_cases hx : ∃ p ∈ L, p.1 = w.heap.size - 1
    · obtain ⟨p, hp, he⟩ := hx
      obtain ⟨q, hq, hqe⟩ := hk p hp
      have := h'.lt hq
      omega
    · have h2 := hall _ _ h1 (fun p hp he => hx ⟨p, hp, he⟩)
      have := h'.ilt _ _ h2
      omega
/-- A round's word on what isn't ours. -/
theorem St.keeps {J : Nat → Option Obj} {L2 : List (Nat × Obj)} (hall : ∀ b o, w.heap[b]? = some o → (∀ p ∈ L, p.1 ≠ b) → J b = some o) (hs : w.heap.size ≤ w'.heap.size) (hc : ∀ p ∈ L, p.2.isCells = false → p ∈ L2) (h : St W w I L) (h' : St W w' J L2) : KeepsOthers w w' :=
  ⟨hs, fun k o hk ho => by
    by_cases hx : ∃ p ∈ L, p.1 = k
    · obtain ⟨p, hp, rfl⟩ := hx
      have h1 := h.own p hp
      rw [hk] at h1
      cases h1
      exact h'.own p (hc p hp ho)
    · exact h'.imm _ _ (hall _ _ hk (fun p hp he => hx ⟨p, hp, he⟩))⟩
end

/-! ### In a round -/
section
variable {P : Program} {W w : World} {I : Nat → Option Obj} {F : List (Nat × Obj)} {fe : Fence} {nn : Nat}
theorem wpListIn_load_st {ops : Array Oper} {rest : List Oper} {o : Oper} {a : Act} {Q : Exit → Act → World → Prop} (hgd : o.guard = none) (ty : TypeId) (x : Operand) (ho : o.op = .load ty x) {g off : Nat} (hx : a.eval x = .pointer (some ⟨g, off, none⟩))
    {L : List (Nat × Obj)} (hst : St W w I L) {cs : Array Value} {t : TypeId} {fr : Nat × Nat} (hp : (g, Obj.cells cs t fr) ∈ L) (ys : Array Value) (hys : ∀ j, j < ys.size → cs[off + j]? = ys[j]?) (d : TypeDesc) (hu : P.underlying ty = some d) (hd : d.isRow = true)
    (hi : (P.info? ty).map (·.size) = some ys.size) (h : wpListIn fe nn P ops Q rest (a.put o.dst (.agg ys)) w) : wpListIn fe nn P ops Q (o :: rest) a w := by
  refine wpListIn_plain hgd fun K hK => ?_
  have hr := run_loadAt_mid (P := P) w g off ty ys.toList d (hst.rangeAt hp (by simpa using hys)) hu hd (by simpa using hi)
  rw [Array.toArray_toList] at hr
  unfold Oper.wpIn
  refine ⟨by simp [Oper.about, ho], ?_⟩
  rw [Oper.semAt_plain fe _ _ (by rw [ho]; intro c hc'; cases hc')]
  simp only [execOp, ho, hx, hr, Sem.run_bind, Sem.run_pure, Result.andThen_ok]
  exact hK _ _ h
theorem wpListIn_store_st {ops : Array Oper} {rest : List Oper} {o : Oper} {a : Act} {Q : Exit → Act → World → Prop} (hgd : o.guard = none) (ty : TypeId) (x y : Operand) (ho : o.op = .store ty x y) {g off : Nat} (cells : Array Value) (hx : a.eval x = .pointer (some ⟨g, off, none⟩)) (hy : a.eval y = .agg cells)
    {cs : Array Value} {t : TypeId} (hst : St W w I ((g, .cells cs t (0, 0)) :: F)) (hfit : off + cells.size ≤ cs.size) (hi : (P.info? ty).map (·.size) = some cells.size) (h1 : cells.all (·.oneCell') = true)
    (h : ∀ w', St W w' I ((g, .cells (setMany cs off cells.toList) t (0, 0)) :: F) → wpListIn fe nn P ops Q rest (a.put o.dst undef) w') : wpListIn fe nn P ops Q (o :: rest) a w := by
  refine wpListIn_plain hgd fun K hK => ?_
  have hr := run_storeAt_mid (P := P) w g off ty cells (fun j hj => ⟨by rw [hst.cell (g := g) (cs := cs) (t := t) (fr := (0, 0)) (by simp)]; simp; omega, hst.frozen (g := g) (cs := cs) (t := t) (by simp) _⟩) hi h1
  unfold Oper.wpIn
  refine ⟨by simp [Oper.about, ho], ?_⟩
  rw [Oper.semAt_plain fe _ _ (by rw [ho]; intro c hc'; cases hc')]
  simp only [execOp, ho, hx, hy, hr, Sem.run_bind, Sem.run_pure, Result.andThen_ok]
  exact hK _ _ (h _ (St.setCells _ _ _ _ hst))
theorem wpListIn_append_row {ops : Array Oper} {rest : List Oper} {o : Oper} {a : Act} {Q : Exit → Act → World → Prop} (hgd : o.guard = none) (s x : Operand) (t : TypeId)
    (ho : o.op = .call { callee := .builtin .append, args := #[s, x], argTypes := #[t, t] })
    (e : TypeId) (z : Value) (size bytes : Nat) (ht : P.underlying t = some (.slice e)) (hi : (P.info? e).map (fun i => (i.zero, i.size, i.bytes)) = some (some z, size, bytes)) (hzs : z.cells.size = size) (hsz : 0 < size)
    {v : Value} {n : Nat} {xs : List Value} {L : List (Nat × Obj)} (hs : a.eval s = v) (hrow : Row e size v n xs L) (hst : St W w I (L ++ F)) {A : Option Addr} {m c : Nat} {news : List Value} (hx : a.eval x = .slice A m c) (hsrc : Src w size A m news) (h1 : ∀ u ∈ news, u.oneCell' = true)
    (k : Nat) (hk : n + m = k) (ys : List Value) (hys : xs ++ news = ys) (h63 : k ≤ maxLen) (hbytes : k * bytes ≤ 140737488355328)
    (h : ∀ A' c' w' L', Row e size (.slice A' k c') k ys L' → St W w' I (L' ++ F) → wpListIn fe nn P ops Q rest (a.put o.dst (.slice A' k c')) w') : wpListIn fe nn P ops Q (o :: rest) a w := by
  subst hk
  subst hys
  refine wpListIn_plain hgd fun K hK => ?_
  obtain ⟨v', w', L', hr, h2, h3⟩ := run_append_row (P := P) t o.type e z size bytes ht hi hzs hsz hrow hst (c := c) hsrc h1 h63 hbytes
  obtain ⟨A', c', rfl⟩ := h2.shape
  unfold Oper.wpIn
  refine ⟨by simp [Oper.about, ho, resolve, Target.leads, Sem.run_pure], ?_⟩
  rw [Oper.semAt_plain fe _ _ (by rw [ho]; intro c hc'; cases hc')]
  simp only [execOp, ho, resolve, invoke, builtin, Sem.run_bind, Sem.run_pure, Result.andThen_ok, List.map_toArray, List.map_cons, List.map_nil, hs, hx, hr]
  exact hK _ _ (h A' c' w' L' h2 h3)
end
end

section
set_option linter.unusedVariables false
set_option linter.unusedSimpArgs false
open Go.RowKit Go.Lib Go.Shelf

def Kc (b1 b2 : Nat) (A B : World) : Prop := ∀ b, b = b1 ∨ b = b2 → B.heap[b]? = A.heap[b]?
theorem Kc_t {b1 b2 : Nat} {A B C : World} (h : Kc b1 b2 A B) (k : Kc b1 b2 B C) : Kc b1 b2 A C := fun b hb => (k b hb).trans (h b hb)
theorem Kc_b {b1 b2 N : Nat} (h1 : b1 < N) (h2 : b2 < N) (W : World) (l : Nat) (o o' : Obj) (hl : N ≤ l) (_h : W.heap[l]? = some o) (_h : o.isCells = false) (_h : o.isWalk = false) : Kc b1 b2 W (W.putObj l o') := fun b hb =>
  World.putObj_heap_other (by omega)
theorem run_slice_from' {P : Program} {t e : TypeId} (ht : P.underlying t = some (.slice e)) (hs : ∀ w, (sizeOf e).run P w = .ok 1 w) (A : Option Addr) (n c k : Nat) (hk : k ≤ n) (hc : n ≤ c) (w : World) :
    (Instr.slice t (.slice A n c) (some (.int .i64 (k : Int))) none none).run P w = .ok (.slice (subA A c k) (n - k) (c - k)) w := run_slice_from ht hs A n c k hk hc w

def ChunkDone (J Jx : List Nat → World → Prop) (N : Nat) (e : Ending) (W' : World) : Prop := (∃ v, e = .returned v) ∧ ((∃ ys, ys = List.range N ∧ J ys W') ∨ (∃ pre, (∃ k, k ≤ N ∧ pre = List.range k) ∧ Jx pre W'))
def CPost (J Jx : List Nat → World → Prop) (b1 b2 : Nat) (pre : List Nat) (x : Nat) (W : World) : Bool → World → Prop
  | true, W' => J (pre ++ [x]) W' ∧ Kc b1 b2 W W'
  | false, W' => Jx (pre ++ [x]) W'
end
end Go.Proofs.YtpjfmgifddoppaaDoor
