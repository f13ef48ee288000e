/- Ranges over a function: what the memory's assertion asks. slices.Chunk of bytes: the iterator. image: Sectors: walk (a range over a function). -/
import Derived.Test.YtkpgliaahibjgaaDoorImgFG
import Derived.RangeFuncNested
import Derived.RangeFuncBound
import Derived.RangeFuncCalls
import Derived.RangeFuncLeaves
import Derived.RangeFuncFrom
import Derived.Shelf.Abstract
import Derived.Shelf.RegionOpen
import Derived.WalkKit
import Derived.OwnWalkIn
import Derived.TacticsInMore
import Derived.LoopNIn
import Derived.LoopIn
namespace Go.Proofs.YtkpgliaahibjgaaDoor
section
set_option linter.unusedVariables false
set_option linter.unusedSimpArgs false
open Go.RowKit Go.Lib Go.Shelf

section
variable {W w w' : World} {I : Nat → Option Obj} {L F : List (Nat × Obj)}
/-- Another's block turned, or new ones were laid. -/
theorem St.grown {B : Nat} {row : Option Nat} (h : St W w I L) (hI : ∀ b o, I b = some o → b < B) (hL : ∀ p ∈ L, p.1 < B ∨ p.2.isCells = true) (hg : w.grownBy w' row) (hr : ∀ r, row = some r → B ≤ r ∧ ∃ o : Obj, w.heap[r]? = some o ∧ o.isCells = false) : St W w' I L :=
  ⟨hg.os.trans h.os, hg.tape.trans h.tape, hg.output.trans h.output, fun p hp => (hg.block p.1 (h.lt hp) (fun e => by
      obtain ⟨h1, o, h2, h3⟩ := hr _ e.symm
      rcases hL p hp with h4 | h4
      · omega
      · rw [h.own p hp] at h2
        cases h2
        rw [h4] at h3
        cases h3)).trans (h.own p hp), h.nodup,
   fun b o hb => (hg.block b (Array.getElem?_eq_some_iff.1 (h.imm b o hb)).1 (fun e => by have := (hr _ e.symm).1; have := hI b o hb; omega)).trans (h.imm b o hb), h.apart⟩
theorem St.ilt (h : St W w I L) (b : Nat) (o : Obj) (hb : I b = some o) : b < w.heap.size := (Array.getElem?_eq_some_iff.1 (h.imm b o hb)).1
open Classical in
/-- All that isn't ours stays, too. -/
theorem St.others (h : St W w I L) : ∃ J, Le I J ∧ (∀ b o, w.heap[b]? = some o → (∀ p ∈ L, p.1 ≠ b) → J b = some o) ∧ St W w J L := by
  refine ⟨fun b => if ∃ p ∈ L, p.1 = b then none else w.heap[b]?, ?_, ?_, ⟨h.os, h.tape, h.output, h.own, h.nodup, ?_, ?_⟩⟩
  · intro b o hb
    have h1 := h.imm b o hb
    have h2 : ¬ ∃ p ∈ L, p.1 = b := by
      rintro ⟨p, hp, rfl⟩
      rw [h.apart p hp] at hb
      cases hb
    simp only [if_neg h2, h1]
  · intro b o ho hn
    have h2 : ¬ ∃ p ∈ L, p.1 = b := by
      rintro ⟨p, hp, he⟩
      exact hn p hp he
    simp only [if_neg h2, ho]
  · intro b o hb
    split at hb
    · cases hb
    · exact hb
  · intro p hp
    have h2 : ∃ q ∈ L, q.1 = p.1 := ⟨p, hp, rfl⟩
    simp only [if_pos h2]
theorem St.size_le {J : Nat → Option Obj} {L2 : List (Nat × Obj)} (hall : ∀ b o, w.heap[b]? = some o → (∀ p ∈ L, p.1 ≠ b) → J b = some o) (hk : ∀ p ∈ L, ∃ q ∈ L2, q.1 = p.1) (h' : St W w' J L2) : w.heap.size ≤ w'.heap.size := by
  rcases Nat.eq_zero_or_pos w.heap.size with h0 | h0
  · omega
  · have h1 : w.heap[w.heap.size - 1]? = some (w.heap[w.heap.size - 1]'(by omega)) := Array.getElem?_eq_getElem _
    by_cases hx : ∃ p ∈ L, p.1 = w.heap.size - 1
    · obtain ⟨p, hp, he⟩ := hx
      obtain ⟨q, hq, hqe⟩ := hk p hp
      have := h'.lt hq
      omega
    · have h2 := hall _ _ h1 (fun p hp he => hx ⟨p, hp, he⟩)
      have := h'.ilt _ _ h2
      omega
/-- A round's word on what isn't ours. -/
theorem St.keeps {J : Nat → Option Obj} {L2 : List (Nat × Obj)} (hall : ∀ b o, w.heap[b]? = some o → (∀ p ∈ L, p.1 ≠ b) → J b = some o) (hs : w.heap.size ≤ w'.heap.size) (hc : ∀ p ∈ L, p.2.isCells = false → p ∈ L2) (h : St W w I L) (h' : St W w' J L2) : KeepsOthers w w' :=
  ⟨hs, fun k o hk ho => by
    by_cases hx : ∃ p ∈ L, p.1 = k
    · obtain ⟨p, hp, rfl⟩ := hx
      have h1 := h.own p hp
      rw [hk] at h1
      cases h1
      exact h'.own p (hc p hp ho)
    · exact h'.imm _ _ (hall _ _ hk (fun p hp he => hx ⟨p, hp, he⟩))⟩
end

/-! ### In a round -/
section
variable {P : Program} {W w : World} {I : Nat → Option Obj} {F : List (Nat × Obj)} {fe : Fence} {nn : Nat}
theorem wpListIn_load_st {ops : Array Oper} {rest : List Oper} {o : Oper} {a : Act} {Q : Exit → Act → World → Prop} (hgd : o.guard = none) (ty : TypeId) (x : Operand) (ho : o.op = .load ty x) {g off : Nat} (hx : a.eval x = .pointer (some ⟨g, off, none⟩))
    {L : List (Nat × Obj)} (hst : St W w I L) {cs : Array Value} {t : TypeId} {fr : Nat × Nat} (hp : (g, Obj.cells cs t fr) ∈ L) (ys : Array Value) (hys : ∀ j, j < ys.size → cs[off + j]? = ys[j]?) (d : TypeDesc) (hu : P.underlying ty = some d) (hd : d.isRow = true)
    (hi : (P.info? ty).map (·.size) = some ys.size) (h : wpListIn fe nn P ops Q rest (a.put o.dst (.agg ys)) w) : wpListIn fe nn P ops Q (o :: rest) a w := by
  refine wpListIn_plain hgd fun K hK => ?_
  have hr := run_loadAt_mid (P := P) w g off ty ys.toList d (hst.rangeAt hp (by simpa using hys)) hu hd (by simpa using hi)
  rw [Array.toArray_toList] at hr
  unfold Oper.wpIn
  refine ⟨by simp [Oper.about, ho], ?_⟩
  rw [Oper.semAt_plain fe _ _ (by rw [ho]; intro c hc'; cases hc')]
  simp only [execOp, ho, hx, hr, Sem.run_bind, Sem.run_pure, Result.andThen_ok]
  exact hK _ _ h
theorem wpListIn_store_st {ops : Array Oper} {rest : List Oper} {o : Oper} {a : Act} {Q : Exit → Act → World → Prop} (hgd : o.guard = none) (ty : TypeId) (x y : Operand) (ho : o.op = .store ty x y) {g off : Nat} (cells : Array Value) (hx : a.eval x = .pointer (some ⟨g, off, none⟩)) (hy : a.eval y = .agg cells)
    {cs : Array Value} {t : TypeId} (hst : St W w I ((g, .cells cs t (0, 0)) :: F)) (hfit : off + cells.size ≤ cs.size) (hi : (P.info? ty).map (·.size) = some cells.size) (h1 : cells.all (·.oneCell') = true)
    (h : ∀ w', St W w' I ((g, .cells (setMany cs off cells.toList) t (0, 0)) :: F) → wpListIn fe nn P ops Q rest (a.put o.dst undef) w') : wpListIn fe nn P ops Q (o :: rest) a w := by
  refine wpListIn_plain hgd fun K hK => ?_
  have hr := run_storeAt_mid (P := P) w g off ty cells (fun j hj => ⟨by rw [hst.cell (g := g) (cs := cs) (t := t) (fr := (0, 0)) (by simp)]; simp; omega, hst.frozen (g := g) (cs := cs) (t := t) (by simp) _⟩) hi h1
  unfold Oper.wpIn
  refine ⟨by simp [Oper.about, ho], ?_⟩
  rw [Oper.semAt_plain fe _ _ (by rw [ho]; intro c hc'; cases hc')]
  simp only [execOp, ho, hx, hy, hr, Sem.run_bind, Sem.run_pure, Result.andThen_ok]
  exact hK _ _ (h _ (St.setCells _ _ _ _ hst))
theorem wpListIn_append_row {ops : Array Oper} {rest : List Oper} {o : Oper} {a : Act} {Q : Exit → Act → World → Prop} (hgd : o.guard = none) (s x : Operand) (t : TypeId)
    (ho : o.op = .call { callee := .builtin .append, args := #[s, x], argTypes := #[t, t] })
    (e : TypeId) (z : Value) (size bytes : Nat) (ht : P.underlying t = some (.slice e)) (hi : (P.info? e).map (fun i => (i.zero, i.size, i.bytes)) = some (some z, size, bytes)) (hzs : z.cells.size = size) (hsz : 0 < size)
    {v : Value} {n : Nat} {xs : List Value} {L : List (Nat × Obj)} (hs : a.eval s = v) (hrow : Row e size v n xs L) (hst : St W w I (L ++ F)) {A : Option Addr} {m c : Nat} {news : List Value} (hx : a.eval x = .slice A m c) (hsrc : Src w size A m news) (h1 : ∀ u ∈ news, u.oneCell' = true)
    (k : Nat) (hk : n + m = k) (ys : List Value) (hys : xs ++ news = ys) (h63 : k ≤ maxLen) (hbytes : k * bytes ≤ 140737488355328)
    (h : ∀ A' c' w' L', Row e size (.slice A' k c') k ys L' → St W w' I (L' ++ F) → wpListIn fe nn P ops Q rest (a.put o.dst (.slice A' k c')) w') : wpListIn fe nn P ops Q (o :: rest) a w := by
  subst hk
  subst hys
  refine wpListIn_plain hgd fun K hK => ?_
  obtain ⟨v', w', L', hr, h2, h3⟩ := run_append_row (P := P) t o.type e z size bytes ht hi hzs hsz hrow hst (c := c) hsrc h1 h63 hbytes
  obtain ⟨A', c', rfl⟩ := h2.shape
  unfold Oper.wpIn
  refine ⟨by simp [Oper.about, ho, resolve, Target.leads, Sem.run_pure], ?_⟩
  rw [Oper.semAt_plain fe _ _ (by rw [ho]; intro c hc'; cases hc')]
  simp only [execOp, ho, resolve, invoke, builtin, Sem.run_bind, Sem.run_pure, Result.andThen_ok, List.map_toArray, List.map_cons, List.map_nil, hs, hx, hr]
  exact hK _ _ (h A' c' w' L' h2 h3)
end
end

section
set_option linter.unusedVariables false
set_option linter.unusedSimpArgs false
open Go.RowKit Go.Lib Go.Shelf
attribute [local go_sem] Oper.semAt_some

/-- What a round keeps: two blocks. -/
def Kc (b1 b2 : Nat) (A B : World) : Prop := ∀ b, b = b1 ∨ b = b2 → B.heap[b]? = A.heap[b]?
theorem Kc_t {b1 b2 : Nat} {A B C : World} (h : Kc b1 b2 A B) (k : Kc b1 b2 B C) : Kc b1 b2 A C := fun b hb => (k b hb).trans (h b hb)
theorem Kc_b {b1 b2 N : Nat} (h1 : b1 < N) (h2 : b2 < N) (W : World) (l : Nat) (o o' : Obj) (hl : N ≤ l) (_h : W.heap[l]? = some o) (_h : o.isCells = false) (_h : o.isWalk = false) : Kc b1 b2 W (W.putObj l o') := fun b hb =>
  World.putObj_heap_other (by omega)
structure BoxAt (A0 : Option Addr) (len cap : Nat) (q : Nat) (b1 b2 : Nat) (W : World) : Prop where
  s : W.heap[b1]? = some (.cells #[.slice A0 len cap] 22 (0, 0))
  n : W.heap[b2]? = some (.cells #[.int .i64 q] 3 (0, 0))
theorem BoxAt.kept {A0 : Option Addr} {len cap q b1 b2 : Nat} {A B : World} (h : BoxAt A0 len cap q b1 b2 A) (k : Kc b1 b2 A B) : BoxAt A0 len cap q b1 b2 B := ⟨(k _ (.inl rfl)).trans h.s, (k _ (.inr rfl)).trans h.n⟩
theorem BoxAt.drew {A0 : Option Addr} {len cap q b1 b2 : Nat} {A : World} (h : BoxAt A0 len cap q b1 b2 A) (m : Nat) : BoxAt A0 len cap q b1 b2 (A.drewN m) := ⟨h.s, h.n⟩

/-- How many chunks; how long one is. -/
def chN (len q : Nat) : Nat := (len + q - 1) / q
theorem chN_iff {len q k : Nat} (hq : 1 ≤ q) : k < chN len q ↔ k * q < len := by
  unfold chN
  rw [Nat.lt_iff_add_one_le, Nat.le_div_iff_mul_le hq, Nat.add_mul]
  omega
def clen (len q k : Nat) : Nat := min q (len - k * q)
theorem chunkAt_clen (bs : List UInt8) (q k : Nat) : (chunkAt bs q k).length = clen bs.length q k := by simp [chunkAt, clen]
def cenc (A0 : Option Addr) (len q : Nat) (k : Nat) : Array Value := #[.slice (A0.map (·.add (k * q))) (clen len q k) (clen len q k)]
/-- Two bounds and the room. -/
theorem run_slice_full {P : Program} {t e : TypeId} (ht : P.underlying t = some (.slice e)) (hs : ∀ w, (sizeOf e).run P w = .ok 1 w) (A : Option Addr) (n c l h : Nat) (hl : l < h) (hc : h ≤ c) (w : World) :
    (Instr.slice t (.slice A n c) (some (.int .i64 (l : Int))) (some (.int .i64 (h : Int))) (some (.int .i64 (h : Int)))).run P w = .ok (.slice (A.map (·.add l)) (h - l) (h - l)) w := by
  have h1 : (0 : Int) ≤ h ∧ (h : Int) ≤ c := by omega
  have h2 : (0 : Int) ≤ l ∧ (l : Int) ≤ h := by omega
  have h3 : (l : Int) ≤ h := by omega
  have h4 : ¬ h - l = 0 := by omega
  have h5 : (h : Int) ≤ c := by omega
  have h6 : l ≤ h := by omega
  simp [Instr.slice, run_underlying ht, Instr.sliceBounds, Instr.sliceBound, asIntOf, hs, h3, h4, h5, h6, hc]
  intro h7
  omega
theorem run_slice_from' {P : Program} {t e : TypeId} (ht : P.underlying t = some (.slice e)) (hs : ∀ w, (sizeOf e).run P w = .ok 1 w) (A : Option Addr) (n c k : Nat) (hk : k ≤ n) (hc : n ≤ c) (w : World) :
    (Instr.slice t (.slice A n c) (some (.int .i64 (k : Int))) none none).run P w = .ok (.slice (subA A c k) (n - k) (c - k)) w := run_slice_from ht hs A n c k hk hc w

def ChunkDone (J Jx : List Nat → World → Prop) (N : Nat) (e : Ending) (W' : World) : Prop := (∃ v, e = .returned v) ∧ ((∃ ys, ys = List.range N ∧ J ys W') ∨ (∃ pre, (∃ k, k ≤ N ∧ pre = List.range k) ∧ Jx pre W'))
def CPost (J Jx : List Nat → World → Prop) (b1 b2 : Nat) (pre : List Nat) (x : Nat) (W : World) : Bool → World → Prop
  | true, W' => J (pre ++ [x]) W' ∧ Kc b1 b2 W W'
  | false, W' => Jx (pre ++ [x]) W'

set_option maxRecDepth 100000 in
set_option maxHeartbeats 1000000 in
theorem chunk1_in (n : Nat) (hn : 1 ≤ n) (l b1 b2 : Nat) (A0 : Option Addr) (cap len q : Nat) (hq : 1 ≤ q) (hq2 : q ≤ 9223372036854775807) (hl : len ≤ 1000000) (hcap : len ≤ cap) (J Jx : List Nat → World → Prop) (hJd : ∀ pre W m, J pre W → J pre (W.drewN m))
    (hY : ∀ pre x W, J pre W → pre.length < chN len q → YieldAt Fence.wide (n - 1) Tryd.prog l (cenc A0 len q x) W fun e W' =>
      (e = .returned (.bool true) ∧ J (pre ++ [x]) W' ∧ Kc b1 b2 W W') ∨ (e = .returned (.bool false) ∧ Jx (pre ++ [x]) W'))
    (W : World) (hR : BoxAt A0 len cap q b1 b2 W) (h0 : J [] W) :
    CallsIn Fence.wide n Tryd.prog 44 #[.func (.yield l) #[] #[], .pointer (some ⟨b1, 0, none⟩), .pointer (some ⟨b2, 0, none⟩)] W (ChunkDone J Jx (chN len q)) := by
  have cells : ∀ wr, BoxAt A0 len cap q b1 b2 wr → wr.cell? ⟨b1, 0, none⟩ = some (.slice A0 len cap) ∧ wr.cell? ⟨b2, 0, none⟩ = some (.int .i64 q) := fun wr h =>
    ⟨cell_of_row wr _ 0 _ _ _ h.s, cell_of_row wr _ 0 _ _ _ h.n⟩
  have CELLS := Lib.hid cells
  obtain ⟨c1, c2⟩ := cells W hR
  refine callsIn_of_wp Tryd.func44 rfl trivial ?_ rfl
  simp only [Tryd.ntmps44, List.size_toArray, List.length_cons, List.length_nil, Nat.reduceAdd, Nat.reduceSub, Array.replicate_succ, Array.replicate_zero, List.push_toArray, List.append_toArray, List.nil_append, List.cons_append]
  gi_wp2
  clear c1 c2 cells
  gi_loopw [4] (fun i wr => ∃ k P : Nat, k ≤ chN len q ∧ k * q = P ∧ i = .int .i64 P ∧ J (List.range k) wr ∧ BoxAt A0 len cap q b1 b2 wr) (fun i _ => chN len q * q - (intOf i).toNat)
  case atStart => exact ⟨0, 0, Nat.zero_le _, by omega, rfl, h0, hR⟩
  case round =>
    obtain ⟨k, P, hk, hP, rfl, hJs, hr⟩ := hrel
    clear h0 hR
    obtain ⟨c1, c2⟩ := CELLS.out wr hr
    by_cases hlt : P < len
    · have hkl : k < chN len q := (chN_iff hq).2 (by omega)
      have hPi : (P : Int) < (len : Int) := by omega
      have hP0 : (0 : Int) ≤ (P : Int) := by omega
      have hPl : (P : Int) ≤ (len : Int) := by omega
      obtain ⟨c, hc⟩ : ∃ c, clen len q k = c := ⟨_, rfl⟩
      have hc0 : 1 ≤ c ∧ P + c ≤ len ∧ (c = min q (len - P)) := by rw [← hc]; unfold clen; rw [hP]; omega
      obtain ⟨hc1, hc2, hc3⟩ := hc0
      have hmin2 : min (q : Int) ((len - P : Nat) : Int) = (c : Int) := by omega
      have HMN := Lib.hid hc3
      clear hc3
      obtain ⟨E, hE⟩ : ∃ E, P + c = E := ⟨_, rfl⟩
      have hEi : (P : Int) + (c : Int) = (E : Int) := by omega
      have sl := fun w => run_slice_full (P := Tryd.prog) Tryd.underlying22 Tryd.sizeOf5 A0 len cap P E (by omega) (by omega) w
      have sl2 := fun w => run_slice_from' (P := Tryd.prog) Tryd.underlying22 Tryd.sizeOf5 A0 len cap P (by omega) hcap w
      rw [show E - P = c by omega] at sl
      have hyld := hY (List.range k) k wr hJs (by rw [List.length_range]; exact hkl)
      have hyd : ∀ m, ∃ fn tmps assign body, (Instr.yield l #[.slice (A0.map (·.add P)) c c]).run Tryd.prog (wr.drewN m) = .ok (.round l fn tmps assign body) (wr.drewN m) ∧ RoundIn Fence.wide (n - 1) Tryd.prog l fn tmps assign body (wr.drewN m) fun e W' => ∃ b, e = .returned (.bool b) ∧ CPost J Jx b1 b2 (List.range k) k wr b W' := fun m => by
        have h9 := hY (List.range k) k (wr.drewN m) (hJd _ _ m hJs) (by rw [List.length_range]; exact hkl)
        unfold cenc at h9
        rw [hP, hc] at h9
        refine YieldAt.mono h9 ?_
        rintro e W' (⟨rfl, h1, h2⟩ | ⟨rfl, h1⟩)
        · exact ⟨true, rfl, h1, h2⟩
        · exact ⟨false, rfl, h1⟩
      have hqP : (P : Int) + (q : Int) ≤ 9223372036854775807 := by
        rcases Nat.eq_zero_or_pos k with h | h
        · subst h; simp at hP; omega
        · have := Nat.le_mul_of_pos_left q h
          omega
      have HYD := Lib.hid hyd; have HP := Lib.hid hP
      clear hyld hyd hP hE hc
      gi_wp2
      refine (wpIn_wide (n := n)).2 ?_
      go_quiet (fail)
      obtain ⟨fn, tmps, assign, body, hy, hR2⟩ := HYD.out nq
      have c1' : (wr.drewN nq).cell? ⟨b1, 0, none⟩ = some (.slice A0 len cap) := c1
      clear HYD
      gi_wp2
      refine hR2.mono ?_
      rintro e W3 ⟨b, rfl, hb⟩
      cases b with
      | true =>
        obtain ⟨hJ3, hk3⟩ := hb
        obtain ⟨d1, d2⟩ := CELLS.out W3 ((hr.drew nq).kept hk3)
        clear c1 c2 c1' hy hR2
        gi_wp2
        go_roundw
        case rel => exact ⟨k + 1, P + q, by omega, by rw [Nat.add_mul, HP.out]; omega, by go_num, by rw [List.range_succ]; exact hJ3, (hr.drew nq).kept hk3⟩
        case measure =>
          have h1 : P < chN len q * q := by
            rw [← HP.out]
            exact Nat.mul_lt_mul_of_pos_right hkl (by omega)
          simp [intOf]; omega
      | false =>
        have hJx3 : Jx _ _ := hb
        clear c1 c2 c1' hy hR2
        gi_wp2
        refine bodyPost_ret (results_none rfl _ _ _) rfl ?_
        exact ⟨⟨_, rfl⟩, .inr ⟨_, ⟨k + 1, by omega, by rw [List.range_succ]⟩, hJx3⟩⟩
    · have hke : k = chN len q := by
        rcases Nat.lt_or_ge k (chN len q) with h | h
        · have := (chN_iff hq).1 h; omega
        · omega
      have hPn : ¬ (P : Int) < (len : Int) := by omega
      have HKE := Lib.hid hke; have HJS := Lib.hid hJs
      clear hP hk hJs hlt hke
      gi_wp2
      go_end0
      exact ⟨⟨_, rfl⟩, .inl ⟨_, by rw [← HKE.out], HJS.out⟩⟩
end

section
set_option linter.unusedVariables false
set_option linter.unusedSimpArgs false
open Go.RowKit Go.Lib Go.Shelf
attribute [local go_sem] Oper.semAt_some

section
variable {P : Program} {W w : World} {I : Nat → Option Obj} {F : List (Nat × Obj)} {fe : Fence} {nn : Nat}
theorem wpListIn_copy_st {ops : Array Oper} {rest : List Oper} {o : Oper} {a : Act} {Q : Exit → Act → World → Prop} (hgd : o.guard = none) (d s : Operand) (dT sT : TypeId)
    (ho : o.op = .call { callee := .builtin .copy, args := #[d, s], argTypes := #[dT, sT] }) (elem : TypeId) (hu : P.underlying dT = some (.slice elem)) (hsz : (P.info? elem).map (·.size) = some 1)
    {g off dLen dCap n sCap : Nat} {sp : Option Addr} (hd : a.eval d = .slice (some ⟨g, off, none⟩) dLen dCap) (hs : a.eval s = .slice sp n sCap) {cur : Array Value} {t : TypeId}
    (hst : St W w I ((g, .cells cur t (0, 0)) :: F)) (cs : List Value) (hsrc : Src w 1 sp n cs) (hfit : off + min n dLen ≤ cur.size) (h1 : ∀ v ∈ cs, v.oneCell' = true) (k : Nat) (hk : k = min n dLen)
    (h : ∀ w', St W w' I ((g, .cells (cur.toList.take off ++ (cs.take k ++ cur.toList.drop (off + k))).toArray t (0, 0)) :: F) → wpListIn fe nn P ops Q rest (a.put o.dst (.int .i64 (k : Int))) w') :
    wpListIn fe nn P ops Q (o :: rest) a w := by
  subst hk
  have hl : cs.length = n := by have := hsrc.1; omega
  have htl : (cs.take (min n dLen)).length = min n dLen := by rw [List.length_take]; omega
  refine wpListIn_plain hgd fun K hK => ?_
  unfold Oper.wpIn
  refine ⟨by simp [Oper.about, ho, resolve, Target.leads, Sem.run_pure], ?_⟩
  rw [Oper.semAt_plain fe _ _ (by rw [ho]; intro c hc'; cases hc')]
  by_cases h0 : min n dLen = 0
  · have hrun := run_copy_none (P := P) w dT sT o.type elem (some ⟨g, off, none⟩) sp dLen dCap n sCap hu hsz h0
    have h9 := h w (by rw [h0, List.take_zero, List.nil_append, Nat.add_zero, List.take_append_drop]; exact hst)
    rw [h0] at h9
    simp [execOp, ho, resolve, invoke, builtin, hd, hs, hrun, Result.andThen]
    exact hK _ _ h9
  · obtain ⟨ad, rfl, _⟩ := hsrc.2 0 _ (List.getElem?_eq_getElem (by omega))
    have hrun := run_copy_row (P := P) w dT sT o.type elem g off dLen dCap ad n sCap cur t (cs.take (min n dLen)) hu hsz (hst.own (g, .cells cur t (0, 0)) (by simp)) htl (fun j v hj => by
      rw [List.getElem?_take] at hj
      split at hj
      · obtain ⟨ad', e1, h2⟩ := hsrc.2 j v hj
        injection e1 with e1
        rw [e1]
        exact h2
      · cases hj) (by rw [htl]; exact hfit) (fun v hv => h1 v (List.mem_of_mem_take hv))
    have h9 := h _ (St.setRow hst _)
    rw [htl] at hrun
    rw [← List.append_assoc] at h9
    simp only [execOp, ho, resolve, invoke, builtin, hd, hs, hrun, Sem.run_bind, Sem.run_pure, Result.andThen_ok, List.map_toArray, List.map_cons, List.map_nil]
    exact hK _ _ h9
end

theorem chunk_stops (n : Nat) (hn : 1 ≤ n) (b1 b2 : Nat) (A0 : Option Addr) (cap len q : Nat) (hq : 1 ≤ q) (hq2 : q ≤ 9223372036854775807) (hl : len ≤ 1000000) (hcap : len ≤ cap) (w : World) (h1 : b1 < w.heap.size) (h2 : b2 < w.heap.size) (hR : BoxAt A0 len cap q b1 b2 w) :
    SeqStopsK Fence.wide n Tryd.prog 44 #[.pointer (some ⟨b1, 0, none⟩), .pointer (some ⟨b2, 0, none⟩)] (fun k : Nat => #[.slice (A0.map (·.add (k * q))) (clen len q k) (clen len q k)]) (Kc b1 b2) (fun ys => ys = List.range (chN len q)) (fun pre => ∃ k, k ≤ chN len q ∧ pre = List.range k) (chN len q) w := fun l J Jx W hW hJ _ hY h0 => by
  refine chunk1_in n hn l b1 b2 A0 cap len q hq hq2 hl hcap J Jx (fun pre W1 m hj => hJ pre W1 _ none hj ⟨rfl, rfl, rfl, Nat.le_refl _, fun _ _ _ => rfl⟩ (fun r e => by cases e)) hY W ?_ h0
  exact ⟨(hW.block _ h1).trans hR.s, (hW.block _ h2).trans hR.n⟩

section
variable {W w : World} {I : Nat → Option Obj} {F : List (Nat × Obj)}
set_option maxRecDepth 100000 in
set_option maxHeartbeats 1000000 in
theorem chunk_new (A0 : Option Addr) (len cap q : Nat) (hq : 1 ≤ q) (h : St W w I F) : Calls Tryd.prog 27 #[.slice A0 len cap, .int .i64 q] w fun e w' =>
    ∃ b, e = .returned (.func (.func 44) #[] #[.pointer (some ⟨b, 0, none⟩), .pointer (some ⟨b + 1, 0, none⟩)]) ∧ St W w' I ((b + 1, .cells #[.int .i64 q] 3 (0, 0)) :: (b, .cells #[.slice A0 len cap] 22 (0, 0)) :: F) := by
  have h1 := (h.alloc (.cells #[.slice A0 len cap] 22)).alloc (.cells #[.int .i64 q] 3)
  rw [World.size_alloc] at h1
  have hqi : (1 : Int) ≤ (q : Int) := by omega
  have H1 := Lib.hid h1
  clear h h1
  go_enter Tryd.func27, Tryd.ntmps27
  go_wp2_with fail
  go_ret
  exact ⟨_, rfl, H1.out⟩
end

theorem cpart {A0 : Option Addr} {cap q : Nat} {bs : List UInt8} {W : World} {I : Nat → Option Obj} (hp : Part.In ⟨A0, cap, bs⟩ W I) (hcap : bs.length ≤ cap) (x : Nat) : Part.In ⟨A0.map (·.add (x * q)), clen bs.length q x, chunkAt bs q x⟩ W I := by
  by_cases h : x * q < bs.length
  · have h1 := Part.In_take (clen bs.length q x) q (Part.In_drop (cap - x * q) (x * q) hcap hp)
    unfold subA at h1
    rw [if_neg (by omega)] at h1
    exact h1
  · have h1 : chunkAt bs q x = [] := by
      apply List.eq_nil_of_length_eq_zero
      rw [chunkAt_clen]; unfold clen; omega
    rw [h1]
    exact Part.In_nil _ _
theorem secF_chunk (bs : List UInt8) (x : Nat) (cur : List Value) (hcur : cur = (bcells blank).toList) :
    ((cur.take 0 ++ ((((chunkAt bs 64 x).map bval).take (clen bs.length 64 x)) ++ cur.drop (0 + clen bs.length 64 x))).toArray : Array Value) = bcells (secF bs x) := by
  subst hcur
  have hc := chunkAt_clen bs 64 x
  rw [List.take_zero, List.nil_append, Nat.zero_add, List.take_of_length_le (by rw [List.length_map, hc]; omega)]
  unfold bcells
  congr 1
  simp only
  rw [← List.map_drop, ← List.map_append]
  congr 1
  apply List.ext_getElem?
  intro j
  have hcl : clen bs.length 64 x = min 64 (bs.length - x * 64) := rfl
  by_cases hj : j < 64
  · rw [secF_get bs x j hj]
    by_cases h1 : j < clen bs.length 64 x
    · rw [List.getElem?_append_left (by omega), if_pos (by omega)]
      unfold chunkAt
      rw [List.getElem?_take_of_lt hj, List.getElem?_drop, List.getD_eq_getElem?_getD, List.getElem?_eq_getElem (by omega)]
      rfl
    · rw [List.getElem?_append_right (by omega), hc, List.getElem?_drop, if_neg (by omega)]
      unfold blank
      rw [List.getElem?_replicate, if_pos (by omega)]
  · rw [List.getElem?_eq_none (l := secF bs x) (by rw [secF_len]; omega), List.getElem?_eq_none (by rw [List.length_append, hc, List.length_drop]; simp [blank]; omega)]
theorem chN_secN (bs : List UInt8) : chN bs.length 64 = secN bs := by unfold chN secN; omega

section
variable {W w : World} {I : Nat → Option Obj} {F : List (Nat × Obj)}
def SecPost (W : World) (I : Nat → Option Obj) (F : List (Nat × Obj)) (bs : List UInt8) (e : Ending) (w' : World) : Prop := ∃ A c L0, e = .returned (.slice A (secN bs) c) ∧ Row 27 64 (.slice A (secN bs) c) (secN bs) (hcells (sects bs (secN bs))) L0 ∧ St W w' I (L0 ++ F)
/-- Between two rounds. -/
def SecI (W : World) (I : Nat → Option Obj) (F : List (Nat × Obj)) (bs : List UInt8) (b3 : Nat) (X : List (Nat × Obj)) (pre : List Nat) (W1 : World) : Prop :=
  ∃ A c L0, Row 27 64 (.slice A pre.length c) pre.length (hcells (pre.map (secF bs))) L0 ∧ St W W1 I ((b3, .cells #[.slice A pre.length c] 24 (0, 0)) :: (L0 ++ (X ++ F)))

set_option maxRecDepth 100000 in
set_option maxHeartbeats 4000000 in
theorem isectors (p : Part) (hp : p.In W I) (hl : p.bs.length ≤ 1000000) (hcap : p.bs.length ≤ p.c) (h : St W w I F) : Calls Tryd.prog 10 #[.slice p.A p.bs.length p.c] w (SecPost W I F p.bs) := by
  obtain ⟨A0, cap, bs⟩ := p
  simp only at hl hcap ⊢
  obtain ⟨b3, hb3⟩ : ∃ b, b = w.heap.size := ⟨_, rfl⟩
  have h1 := h.alloc (.cells #[.slice none 0 0] 24)
  rw [← hb3] at h1
  have H1 := Lib.hid h1; have HP := Lib.hid hp
  clear h h1 hp
  refine (callsIn_wide (n := 3)).1 ?_
  refine callsIn_of_wp_marks Tryd.func10 rfl trivial ?_ rfl
  simp only [Tryd.ntmps10, List.size_toArray, List.length_cons, List.length_nil, Nat.reduceAdd, Nat.reduceSub, Array.replicate_succ, Array.replicate_zero, List.push_toArray, List.append_toArray, List.nil_append, List.cons_append]
  rw [wpIn_wide]
  go_wp2_with fail
  refine (chunk_new A0 bs.length cap 64 (by omega) H1.out).mono ?_
  rintro e w4 ⟨b, rfl, h4⟩
  rw [← hb3]
  clear hb3
  have hR : BoxAt A0 bs.length cap 64 b (b + 1) w4 := ⟨h4.own (b, _) (by simp), h4.own (b + 1, _) (by simp)⟩
  have hb1 : b < w4.heap.size := h4.lt (p := (b, .cells #[.slice A0 bs.length cap] 22 (0, 0))) (by simp)
  have hb2 : b + 1 < w4.heap.size := h4.lt (p := (b + 1, .cells #[.int .i64 (64 : Nat)] 3 (0, 0))) (by simp)
  have hb3 : b3 < w4.heap.size := h4.lt (p := (b3, .cells #[.slice none 0 0] 24 (0, 0))) (by simp)
  have hI := h4.ilt
  have hF : ∀ p ∈ F, p.1 < w4.heap.size := fun p hp => h4.lt (by simp [hp])
  obtain ⟨X, hX⟩ : ∃ X, X = [(b + 1, Obj.cells #[.int .i64 (64 : Nat)] 3 (0, 0)), (b, .cells #[.slice A0 bs.length cap] 22 (0, 0))] := ⟨_, rfl⟩
  have h5 : SecI W I F bs b3 X [] w4 := ⟨none, 0, [], Row.nil _ _, by rw [hX]; exact St.swap (A := [_, _]) (B := [_]) h4⟩
  have hXl : ∀ p ∈ X, p.1 < w4.heap.size := by rw [hX]; intro p hp; simp at hp; rcases hp with rfl | rfl <;> assumption
  have ownL : ∀ (A' : Option Addr) (n' c' : Nat) (xs' : List Value) (L0 : List (Nat × Obj)), Row 27 64 (.slice A' n' c') n' xs' L0 → ∀ p ∈ (b3, Obj.cells #[.slice A' n' c'] 24 (0, 0)) :: (L0 ++ (X ++ F)), p.1 < w4.heap.size ∨ p.2.isCells = true := by
    intro A' n' c' xs' L0 hr p hp
    rcases List.mem_cons.1 hp with rfl | hp
    · exact .inl hb3
    · rcases List.mem_append.1 hp with hp | hp
      · refine .inr ?_
        obtain ⟨_, ⟨_, _, rfl⟩ | ⟨g, off, cap, cur, _, rfl, _⟩⟩ := hr
        · cases hp
        · simp at hp; subst hp; rfl
      · rcases List.mem_append.1 hp with hp | hp
        · exact .inl (hXl p hp)
        · exact .inl (hF p hp)
  have own : OwnFrom w4.heap.size (SecI W I F bs b3 X) := by
    rintro s A B row ⟨A', c', L0, hr, hst⟩ hg hrow
    exact ⟨A', c', L0, hr, hst.grown hI (ownL _ _ _ _ _ hr) hg hrow⟩
  have OWNL := Lib.hid ownL
  clear ownL
  have H5 := Lib.hid h5; have HR := Lib.hid hR; have OWN := Lib.hid own; have HX := Lib.hid hX
  clear h4 h5 hR own hX
  go_wp2_with fail
  refine (wpIn_wide (n := 3)).1 ?_
  refine' wpIn_rangeFunc_ownF (n := 3) rfl (by omega) (gf := 44) (lb := #[.pointer (some ⟨b, 0, none⟩), .pointer (some ⟨b + 1, 0, none⟩)]) rfl trivial (enters_of Tryd.func44 (by kernel_rfl) rfl)
    (chunk_stops 2 (by omega) b (b + 1) A0 cap bs.length 64 (by omega) (by omega) hl hcap w4 hb1 hb2 HR.out) Kc_t (Kc_b hb1 hb2) (Below.refl _ _) (fun _ => rfl)
    (SecI W I F bs b3 X) (fun _ _ _ => False) OWN.out (fun _ _ _ _ _ hs _ _ => hs) H5.out _ ?assign ?body ?done ?stop
  case assign =>
    intro l x W K hK
    gi_wp2
    exact hK
  case body =>
    rintro l pre x W1 ⟨A, c, L0, hrow, hst⟩ hlen
    obtain ⟨J, hle, hall, hstJ⟩ := hst.others
    have hlm : pre.length ≤ 1000000 := by have : chN bs.length 64 ≤ 1000000 := by unfold chN; omega
                                          omega
    have HJ := Lib.hid hstJ; have HALL := Lib.hid hall; have HST := Lib.hid hst; have HROW := Lib.hid hrow; have HLE := Lib.hid hle
    clear hle hall hst hstJ hrow hlen
    gi_wp2_with (refine ⟨trivial, ?_⟩; gi_at_call 28; refine (CallsIn.inRound l (callsIn_wide.2 (blank_any HJ.out))).mono ?_; rintro e w2 ⟨rfl, h2⟩; refine Hid.out ?_)
    refine Lib.hid ?_
    obtain ⟨Z, hZ⟩ : ∃ Z, Z = (Value.int .u8 0 :: .int .u8 0 :: .int .u8 0 :: .int .u8 0 :: .int .u8 0 :: .int .u8 0 :: .int .u8 0 :: .int .u8 0 :: .int .u8 0 :: .int .u8 0 :: .int .u8 0 :: .int .u8 0 :: .int .u8 0 :: .int .u8 0 :: .int .u8 0 :: .int .u8 0 :: .int .u8 0 :: .int .u8 0 :: .int .u8 0 :: .int .u8 0 :: .int .u8 0 :: .int .u8 0 :: .int .u8 0 :: .int .u8 0 :: .int .u8 0 :: .int .u8 0 :: .int .u8 0 :: .int .u8 0 :: .int .u8 0 :: .int .u8 0 :: .int .u8 0 :: .int .u8 0 :: .int .u8 0 :: .int .u8 0 :: .int .u8 0 :: .int .u8 0 :: .int .u8 0 :: .int .u8 0 :: .int .u8 0 :: .int .u8 0 :: .int .u8 0 :: .int .u8 0 :: .int .u8 0 :: .int .u8 0 :: .int .u8 0 :: .int .u8 0 :: .int .u8 0 :: .int .u8 0 :: .int .u8 0 :: .int .u8 0 :: .int .u8 0 :: .int .u8 0 :: .int .u8 0 :: .int .u8 0 :: .int .u8 0 :: .int .u8 0 :: .int .u8 0 :: .int .u8 0 :: .int .u8 0 :: .int .u8 0 :: .int .u8 0 :: .int .u8 0 :: .int .u8 0 :: .int .u8 0 :: []).toArray := ⟨_, rfl⟩
    have h3 := h2.alloc (.cells Z 27)
    have hZs : Z.size = 64 := by rw [hZ]; rfl
    have hBs : (bcells blank).size = 64 := by rw [bcells_size]; rfl
    have hsz2 : W1.heap.size ≤ w2.heap.size := St.size_le HALL.out (fun p hp => by
      rcases List.mem_cons.1 hp with rfl | hp
      · exact ⟨_, List.mem_cons_self .., rfl⟩
      · exact ⟨p, List.mem_cons_of_mem _ hp, rfl⟩) h2
    have hzf : 0 + (bcells blank).size ≤ Z.size := by omega
    have hzi : (Tryd.prog.info? 27).map (·.size) = some (bcells blank).size := by rw [hBs]; kernel_rfl
    have hzo : (bcells blank).all (·.oneCell') = true := bcells_one _
    have hsm : setMany Z 0 (bcells blank).toList = bcells blank := by rw [setMany_whole _ _ (by rw [Array.length_toList, hBs, hZs]), Array.toArray_toList]
    generalize hBB : bcells blank = BB at *
    have H3 := Lib.hid h3; have HZF := Lib.hid hzf; have HZI := Lib.hid hzi; have HZO := Lib.hid hzo; have HSM := Lib.hid hsm; have HSZ2 := Lib.hid hsz2; have HB := Lib.hid hBB
    clear h2 h3 hzf hzi hzo hsm hsz2 hBB HJ hZs
    subst hZ
    gi_wp2_with (with_reducible refine wpListIn_store_st rfl 27 (.tmp 5) (.tmp 9) rfl (g := w2.heap.size) (off := 0) BB rfl rfl H3.out HZF.out HZI.out HZO.out ?_; intro w3 h4; refine Hid.out ?_)
    refine Lib.hid ?_
    rw [HSM.out] at h4
    obtain ⟨g, hg⟩ : ∃ g, g = w2.heap.size := ⟨_, rfl⟩
    rw [← hg] at h4 ⊢
    have hsrc := cpart (q := 64) HP.out hcap x _ _ (h4.less HLE.out)
    have hcl : clen bs.length 64 x = min (clen bs.length 64 x) 64 := by unfold clen; omega
    have hcf : 0 + min (clen bs.length 64 x) 64 ≤ BB.size := by omega
    have hone : ∀ v ∈ (chunkAt bs 64 x).map bval, v.oneCell' = true := by intro u hu; obtain ⟨b, _, rfl⟩ := List.mem_map.1 hu; rfl
    rw [chunkAt_clen] at hsrc
    have hres := secF_chunk bs x BB.toList (by rw [HB.out])
    have H4 := Lib.hid h4; have HSRC := Lib.hid hsrc; have HCL := Lib.hid hcl; have HCF := Lib.hid hcf; have HONE := Lib.hid hone; have HRES := Lib.hid hres; have HG := Lib.hid hg
    clear h4 hsrc hcl hcf hone hres hg H3 HZF HZI HZO HSM HB
    gi_wp2_with (with_reducible refine wpListIn_copy_st rfl (.tmp 10) (.tmp 11) 22 22 rfl 5 Tryd.underlying22 (by kernel_rfl) (g := g) (off := 0) rfl rfl H4.out _ HSRC.out HCF.out HONE.out _ HCL.out ?_; intro w5 h5; refine Hid.out ?_)
    refine Lib.hid ?_
    rw [HRES.out] at h5
    have hYs : (bcells (secF bs x)).size = 64 := by rw [bcells_size, secF_len]
    have hYo : ∀ u ∈ (bcells (secF bs x)).toList, u.oneCell' = true := fun u hu => Array.all_eq_true_iff_forall_mem.1 (bcells_one (secF bs x)) u (Array.mem_toList_iff.1 hu)
    have hYi : (Tryd.prog.info? 27).map (·.size) = some (bcells (secF bs x)).size := by rw [hYs]; kernel_rfl
    have hadd : hcells (pre.map (secF bs)) ++ (bcells (secF bs x)).toList = hcells ((pre ++ [x]).map (secF bs)) := by
      rw [List.map_append, List.map_cons, List.map_nil, hcells_add]
      simp [bcells]
    have e3 : w5.cell? ⟨b3, 0, none⟩ = some (.slice A pre.length c) := h5.cell (g := b3) (cs := #[.slice A pre.length c]) (t := 24) (fr := (0, 0)) (by simp) 0
    generalize bcells (secF bs x) = Y at *
    have hfold : Array.foldl (fun cs (x : Value × Nat) => cs.setIfInBounds x.snd x.fst) (Value.int .u8 0 :: .int .u8 0 :: .int .u8 0 :: .int .u8 0 :: .int .u8 0 :: .int .u8 0 :: .int .u8 0 :: .int .u8 0 :: .int .u8 0 :: .int .u8 0 :: .int .u8 0 :: .int .u8 0 :: .int .u8 0 :: .int .u8 0 :: .int .u8 0 :: .int .u8 0 :: .int .u8 0 :: .int .u8 0 :: .int .u8 0 :: .int .u8 0 :: .int .u8 0 :: .int .u8 0 :: .int .u8 0 :: .int .u8 0 :: .int .u8 0 :: .int .u8 0 :: .int .u8 0 :: .int .u8 0 :: .int .u8 0 :: .int .u8 0 :: .int .u8 0 :: .int .u8 0 :: .int .u8 0 :: .int .u8 0 :: .int .u8 0 :: .int .u8 0 :: .int .u8 0 :: .int .u8 0 :: .int .u8 0 :: .int .u8 0 :: .int .u8 0 :: .int .u8 0 :: .int .u8 0 :: .int .u8 0 :: .int .u8 0 :: .int .u8 0 :: .int .u8 0 :: .int .u8 0 :: .int .u8 0 :: .int .u8 0 :: .int .u8 0 :: .int .u8 0 :: .int .u8 0 :: .int .u8 0 :: .int .u8 0 :: .int .u8 0 :: .int .u8 0 :: .int .u8 0 :: .int .u8 0 :: .int .u8 0 :: .int .u8 0 :: .int .u8 0 :: .int .u8 0 :: .int .u8 0 :: []).toArray Y.zipIdx 0 64 = Y := by
      rw [fold_fill Y _ 64 hYs (by decide), show ((Value.int .u8 0 :: .int .u8 0 :: .int .u8 0 :: .int .u8 0 :: .int .u8 0 :: .int .u8 0 :: .int .u8 0 :: .int .u8 0 :: .int .u8 0 :: .int .u8 0 :: .int .u8 0 :: .int .u8 0 :: .int .u8 0 :: .int .u8 0 :: .int .u8 0 :: .int .u8 0 :: .int .u8 0 :: .int .u8 0 :: .int .u8 0 :: .int .u8 0 :: .int .u8 0 :: .int .u8 0 :: .int .u8 0 :: .int .u8 0 :: .int .u8 0 :: .int .u8 0 :: .int .u8 0 :: .int .u8 0 :: .int .u8 0 :: .int .u8 0 :: .int .u8 0 :: .int .u8 0 :: .int .u8 0 :: .int .u8 0 :: .int .u8 0 :: .int .u8 0 :: .int .u8 0 :: .int .u8 0 :: .int .u8 0 :: .int .u8 0 :: .int .u8 0 :: .int .u8 0 :: .int .u8 0 :: .int .u8 0 :: .int .u8 0 :: .int .u8 0 :: .int .u8 0 :: .int .u8 0 :: .int .u8 0 :: .int .u8 0 :: .int .u8 0 :: .int .u8 0 :: .int .u8 0 :: .int .u8 0 :: .int .u8 0 :: .int .u8 0 :: .int .u8 0 :: .int .u8 0 :: .int .u8 0 :: .int .u8 0 :: .int .u8 0 :: .int .u8 0 :: .int .u8 0 :: .int .u8 0 :: []).toArray : Array Value).toList.drop 64 = [] from rfl, List.append_nil, Array.toArray_toList]
    have H5 := Lib.hid h5; have HYO := Lib.hid hYo; have HYI := Lib.hid hYi; have HADD := Lib.hid hadd
    clear h5 hYo hYi hadd H4 HSRC HCL HCF HONE HRES
    gi_wp2_with (first
      | (with_reducible refine wpListIn_load_st rfl 27 (.tmp 5) rfl (g := g) (off := 0) rfl H5.out (List.mem_cons_self ..) Y (fun j hj => by rw [Nat.zero_add]) _ Tryd.underlying27 rfl HYI.out ?_)
      | (gi_at_builtin; refine Hid.out ?_))
    refine Lib.hid ?_
    refine wpListIn_append_row (F := (g, .cells Y 27 (0, 0)) :: (b3, .cells #[.slice A pre.length c] 24 (0, 0)) :: (X ++ F)) (L := L0) rfl (.tmp 13) (.tmp 15) 24 rfl 27 (.agg (Value.int .u8 0 :: .int .u8 0 :: .int .u8 0 :: .int .u8 0 :: .int .u8 0 :: .int .u8 0 :: .int .u8 0 :: .int .u8 0 :: .int .u8 0 :: .int .u8 0 :: .int .u8 0 :: .int .u8 0 :: .int .u8 0 :: .int .u8 0 :: .int .u8 0 :: .int .u8 0 :: .int .u8 0 :: .int .u8 0 :: .int .u8 0 :: .int .u8 0 :: .int .u8 0 :: .int .u8 0 :: .int .u8 0 :: .int .u8 0 :: .int .u8 0 :: .int .u8 0 :: .int .u8 0 :: .int .u8 0 :: .int .u8 0 :: .int .u8 0 :: .int .u8 0 :: .int .u8 0 :: .int .u8 0 :: .int .u8 0 :: .int .u8 0 :: .int .u8 0 :: .int .u8 0 :: .int .u8 0 :: .int .u8 0 :: .int .u8 0 :: .int .u8 0 :: .int .u8 0 :: .int .u8 0 :: .int .u8 0 :: .int .u8 0 :: .int .u8 0 :: .int .u8 0 :: .int .u8 0 :: .int .u8 0 :: .int .u8 0 :: .int .u8 0 :: .int .u8 0 :: .int .u8 0 :: .int .u8 0 :: .int .u8 0 :: .int .u8 0 :: .int .u8 0 :: .int .u8 0 :: .int .u8 0 :: .int .u8 0 :: .int .u8 0 :: .int .u8 0 :: .int .u8 0 :: .int .u8 0 :: []).toArray) 64 64 Tryd.underlying24 (by kernel_rfl) rfl (by omega) rfl HROW.out (St.swap (A := [_, _]) (St.alloc_ H5.out _)) rfl (Src.newS _ 64 Y 27 rfl 1 hYs) HYO.out (pre.length + 1) rfl (hcells ((pre ++ [x]).map (secF bs))) HADD.out (by unfold maxLen; omega) (by omega) ?_
    intro A6 c6 w6 L6 hr6 h6
    have e6 : w6.cell? ⟨b3, 0, none⟩ = some (.slice A pre.length c) := h6.cell (g := b3) (cs := #[.slice A pre.length c]) (t := 24) (fr := (0, 0)) (by simp) 0
    have f6 : w6.frozen? ⟨b3, 0, none⟩ = false := h6.frozen (g := b3) (cs := #[.slice A pre.length c]) (t := 24) (by simp) 0
    have h7 := St.set (A := L6 ++ [(g, _)]) (g := b3) (cs := #[.slice A pre.length c]) (t := 24) (fr := (0, 0)) (B := X ++ F) (by simpa using h6) 0 (.slice A6 (pre.length + 1) c6)
    have h8 : St W (w6.setCell ⟨b3, 0, none⟩ (.slice A6 (pre.length + 1) c6)) J ((g, .cells Y 27 (0, 0)) :: (b3, .cells #[.slice A6 (pre.length + 1) c6] 24 (0, 0)) :: (L6 ++ (X ++ F))) := by
      refine h7.perm ?_
      have : (L6 ++ [(g, Obj.cells Y 27 (0, 0))] ++ (b3, Obj.cells (#[Value.slice A pre.length c].setIfInBounds 0 (.slice A6 (pre.length + 1) c6)) 24 (0, 0)) :: (X ++ F)) = L6 ++ ([(g, Obj.cells Y 27 (0, 0)), (b3, Obj.cells #[.slice A6 (pre.length + 1) c6] 24 (0, 0))] ++ (X ++ F)) := by simp
      rw [this, ← List.append_assoc]
      exact List.Perm.append_right _ List.perm_append_comm |>.trans (by simp)
    have H8 := Lib.hid h8; have HR6 := Lib.hid hr6
    clear h6 h7 h8 hr6 H5 e3
    gi_wp2
    have hsz : W1.heap.size ≤ (w6.setCell ⟨b3, 0, none⟩ (.slice A6 (pre.length + 1) c6)).heap.size := by
      have h1 := H8.out.lt (p := (g, .cells Y 27 (0, 0))) (List.mem_cons_self ..)
      have h2 := HG.out
      have h3 := HSZ2.out
      simp only at h1
      omega
    have hX2 : ∀ k, k = b ∨ k = b + 1 → ∃ o, (k, o) ∈ X := by
      rw [HX.out]
      intro k hk
      rcases hk with rfl | rfl
      · exact ⟨.cells #[.slice A0 bs.length cap] 22, by simp⟩
      · exact ⟨.cells #[.int .i64 (64 : Nat)] 3, by simp⟩
    refine ⟨St.keeps HALL.out hsz (fun p hp hc => ?_) HST.out H8.out, fun k hk => ?_, A6, c6, L6, ?_, ?_⟩
    · rcases List.mem_cons.1 hp with rfl | hp
      · cases hc
      · rcases List.mem_append.1 hp with hp | hp
        · exfalso
          obtain ⟨_, ⟨_, _, rfl⟩ | ⟨g, off, cap, cur, _, rfl, _⟩⟩ := HROW.out
          · cases hp
          · simp at hp; subst hp; cases hc
        · simp only [List.mem_cons, List.mem_append]
          exact .inr (.inr (.inr (List.mem_append.1 hp)))
    · obtain ⟨o, ho⟩ := hX2 k hk
      have h1 := H8.out.own (k, o) (by simp [ho])
      have h2 := HST.out.own (k, o) (by simp [ho])
      exact h1.trans h2.symm
    · rw [List.length_append]; exact HR6.out
    · rw [List.length_append]
      exact (St.weaken (A := [_]) H8.out).less HLE.out
  case done =>
    rintro D ys W1 hD rfl hs hK
    obtain ⟨A, c, L0, hrow, hst⟩ := hs
    have hst' := hst.grown hI (OWNL.out _ _ _ _ _ hrow) (grownBy_putObj' W1 D (.deferred none)) (fun r e => by cases e; exact ⟨hD, _, hK, rfl⟩)
    have e3 : W1.cell? ⟨b3, 0, none⟩ = some (.slice A (List.range (chN bs.length 64)).length c) := hst.cell (g := b3) (t := 24) (fr := (0, 0)) (List.mem_cons_self ..) 0
    rw [List.length_range, chN_secN] at e3 hrow hst'
    have HST := Lib.hid hst'; have HROW := Lib.hid hrow; have HK := Lib.hid hK
    clear hst hrow hst' hK
    go_wp2_with fail
    refine ⟨by simp, .inl ⟨_, _, rfl, run_takeDeferred HK.out, ?_⟩⟩
    exact ⟨_, results_tmp rfl _ _ _, A, c, L0, rfl, HROW.out, St.mid (A := L0) (B := X) (St.weaken (A := [_]) HST.out)⟩
  case stop =>
    rintro D c pre W1 _ _ h _
    exact h.elim
end
end
end Go.Proofs.YtkpgliaahibjgaaDoor
