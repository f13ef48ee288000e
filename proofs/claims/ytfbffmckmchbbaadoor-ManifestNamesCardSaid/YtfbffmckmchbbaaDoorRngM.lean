/- image: hashes in memory that turns no more; clones. Ranges over a function: what the memory's assertion asks. slices.Chunk of bytes: the iterator. image: Sectors: walk (a range over a function). -/
import Derived.Test.YtfbffmckmchbbaaDoorRmake
import Derived.RangeFuncNested
import Derived.RangeFuncBound
import Derived.RangeFuncCalls
import Derived.RangeFuncLeaves
import Derived.RangeFuncFrom
import Derived.Shelf.Abstract
import Derived.Shelf.RegionOpen
import Derived.WalkKit
import Derived.OwnWalkIn
import Derived.TacticsInMore
import Derived.LoopNIn
import Derived.LoopIn
namespace Go.Proofs.YtfbffmckmchbbaaDoor
section
set_option linter.unusedVariables false
set_option linter.unusedSimpArgs false
open Go.RowKit Go.Lib

theorem Part.In.mono {p : Part} {W : World} {I J : Nat → Option Obj} (h : p.In W I) (hle : Le I J) : p.In W J := fun w L hst => h w L (hst.less hle)
theorem Part.In.nil_of_none {p : Part} {W w : World} {I : Nat → Option Obj} {F : List (Nat × Obj)} (h : p.In W I) (hst : St W w I F) (hA : p.A = none) : p.bs = [] := by
  cases hb : p.bs with
  | nil => rfl
  | cons x l =>
    obtain ⟨ad, h1, _⟩ := (h w F hst).2 0 (bval x) (by rw [hb]; rfl)
    rw [hA] at h1
    cases h1

theorem run_eql_slice_nil' {P : Program} (t : TypeId) {e : TypeId} (h : P.underlying t = some (.slice e)) (a : Option Addr) (l c : Nat) (w : World) : (binOp .eql t (.slice a l c) (.slice none 0 0)).run P w = .ok (.bool a.isNone) w := by
  simp [binOp, Sem.run_bind, run_equal_slice_nil w t e a l c h, Result.andThen]

/-- Hashes in memory that turns no more. -/
structure HsIn (A : Option Addr) (hs : List (List UInt8)) (W : World) (I : Nat → Option Obj) : Prop where
  len : ∀ h ∈ hs, h.length = 32
  at_ : ∀ w L, St W w I L → ∀ j u, (hcells hs)[j]? = some u → ∃ b off, A = some ⟨b, off, none⟩ ∧ w.cell? ⟨b, off + j, none⟩ = some u
theorem HsIn.mono {A : Option Addr} {hs : List (List UInt8)} {W : World} {I J : Nat → Option Obj} (h : HsIn A hs W I) (hle : Le I J) : HsIn A hs W J := ⟨h.len, fun w L hst => h.at_ w L (hst.less hle)⟩
theorem hcells_one (hs : List (List UInt8)) : ∀ u ∈ hcells hs, u.oneCell' = true := by
  intro u hu
  obtain ⟨l, _, hl⟩ := List.mem_flatMap.1 hu
  obtain ⟨b, _, rfl⟩ := List.mem_map.1 hl
  rfl
theorem hcells_length : ∀ (hs : List (List UInt8)), (∀ h ∈ hs, h.length = 32) → (hcells hs).length = hs.length * 32
  | [], _ => rfl
  | h :: hs, hl => by
    have h1 := hcells_length hs (fun x hx => hl x (by simp [hx]))
    have h2 := hl h (by simp)
    unfold hcells at *
    rw [List.flatMap_cons, List.length_append, List.length_map, h1, h2, List.length_cons]
    omega
theorem hcells_get : ∀ (hs : List (List UInt8)) (k j : Nat) (h : List UInt8), (∀ h ∈ hs, h.length = 32) → hs[k]? = some h → j < 32 → (hcells hs)[k * 32 + j]? = (h.map bval)[j]?
  | [], k, j, h, _, hk, _ => by simp at hk
  | q :: l, 0, j, h, hl, hk, hj => by
    simp at hk
    subst hk
    have := hl q (by simp)
    simp only [hcells, List.flatMap_cons, Nat.zero_mul, Nat.zero_add]
    rw [List.getElem?_append_left (by rw [List.length_map]; omega)]
  | q :: l, k + 1, j, h, hl, hk, hj => by
    have := hl q (by simp)
    simp only [hcells, List.flatMap_cons]
    rw [List.getElem?_append_right (by rw [List.length_map]; omega), show (k + 1) * 32 + j - (q.map bval).length = k * 32 + j by rw [List.length_map]; omega]
    exact hcells_get l k j h (fun x hx => hl x (by simp [hx])) (by simpa using hk) hj
theorem HsIn.nil {A : Option Addr} {W : World} {I : Nat → Option Obj} : HsIn A [] W I := ⟨by simp, fun w L _ j u hj => by simp [hcells] at hj⟩

section
variable {W w : World} {I : Nat → Option Obj} {F : List (Nat × Obj)}
theorem HsIn.src {A : Option Addr} {hs : List (List UInt8)} (h : HsIn A hs W I) (hst : St W w I F) : Src w 32 A hs.length (hcells hs) :=
  ⟨hcells_length hs h.len, fun j u hj => by
    obtain ⟨b, off, rfl, hc⟩ := h.at_ w F hst j u hj
    exact ⟨_, rfl, by rw [show (⟨b, off, none⟩ : Addr).add j = ⟨b, off + j, none⟩ by unfold Addr.add; split <;> simp_all]; exact hc⟩⟩
/-- The k-th hash, where it lies. -/
theorem HsIn.range {A : Option Addr} {hs : List (List UInt8)} (h : HsIn A hs W I) (hst : St W w I F) {k : Nat} {x : List UInt8} (hk : hs[k]? = some x) : ∃ b off, A = some ⟨b, off, none⟩ ∧ ∀ v L, St W v I L → v.rangeAt b (off + k * 32) (x.map bval) := by
  have hx := h.len x (List.mem_of_getElem? hk)
  have key : ∀ v L, St W v I L → ∀ j, j < 32 → ∃ b off, A = some (⟨b, off, none⟩ : Addr) ∧ v.cell? ⟨b, off + (k * 32 + j), none⟩ = (x.map bval)[j]? := fun v L hv j hj => by
    have h1 := hcells_get hs k j x h.len hk hj
    have hjl : j < (x.map bval).length := by rw [List.length_map]; omega
    rw [List.getElem?_eq_getElem hjl] at h1
    obtain ⟨b, off, hA, h2⟩ := h.at_ v L hv _ _ h1
    exact ⟨b, off, hA, by rw [h2, List.getElem?_eq_getElem hjl]⟩
  obtain ⟨b, off, hA, _⟩ := key w F hst 0 (by omega)
  refine ⟨b, off, hA, fun v L hv j u hu => ?_⟩
  have hjl : j < 32 := by have := (List.getElem?_eq_some_iff.1 hu).1; rw [List.length_map] at this; omega
  obtain ⟨b', off', hA', h3⟩ := key v L hv j hjl
  rw [hA] at hA'
  injection hA' with hA'
  injection hA' with e1 e2
  subst e1; subst e2
  rw [Nat.add_assoc, h3, hu]
/-- Blocks of ours turn no more. -/
theorem St.freezes : ∀ (L0 : List (Nat × Obj)) {I : Nat → Option Obj} {F : List (Nat × Obj)}, St W w I (L0 ++ F) → ∃ J, Le I J ∧ (∀ p ∈ L0, J p.1 = some p.2) ∧ St W w J F
  | [], I, F, h => ⟨I, Le.refl I, by simp, h⟩
  | p :: L0, I, F, h => by
    obtain ⟨J, h1, h2, h3⟩ := St.freeze (g := p.1) (o := p.2) (L := L0 ++ F) h
    obtain ⟨K, h4, h5, h6⟩ := St.freezes L0 h3
    refine ⟨K, h1.trans h4, fun q hq => ?_, h6⟩
    rcases List.mem_cons.1 hq with rfl | hq
    · exact h4 _ _ h2
    · exact h5 q hq
theorem hs_freeze {A : Option Addr} {c : Nat} {hs : List (List UInt8)} {L0 : List (Nat × Obj)} (hl : ∀ h ∈ hs, h.length = 32) (hr : Row 26 32 (.slice A hs.length c) hs.length (hcells hs) L0) (h : St W w I (L0 ++ F)) : ∃ J, Le I J ∧ HsIn A hs W J ∧ St W w J F := by
  obtain ⟨J, h1, h2, h3⟩ := St.freezes L0 h
  refine ⟨J, h1, ⟨hl, fun v L hv j u hj => ?_⟩, h3⟩
  obtain ⟨g, off, cap, cur, hA, rfl, hc⟩ := hr.cells hj
  injection hA with e1 e2 e3
  refine ⟨g, off, e1, ?_⟩
  rw [cell_of_row v g (off + j) cur 26 (0, 0) (hv.imm _ _ (h2 (g, .cells cur 26) (by simp)))]
  exact hc
theorem part_freeze {A : Option Addr} {c : Nat} {xs : List UInt8} {L0 : List (Nat × Obj)} (hr : Row 5 1 (.slice A xs.length c) xs.length (xs.map bval) L0) (h : St W w I (L0 ++ F)) : ∃ J, Le I J ∧ Part.In ⟨A, c, xs⟩ W J ∧ St W w J F := by
  obtain ⟨J, h1, h2, h3⟩ := St.freezes L0 h
  exact ⟨J, h1, fun v L hv => hr.src (fun p hp => hv.imm _ _ (h2 p hp)), h3⟩

/-- Bytes of the call's own. -/
def FreshB (W w : World) (I : Nat → Option Obj) (F : List (Nat × Obj)) (bs : List UInt8) (v : Value) : Prop :=
  ∃ A c L', v = .slice A bs.length c ∧ Row 5 1 (.slice A bs.length c) bs.length (bs.map bval) L' ∧ St W w I (L' ++ F)
theorem FreshB.nil (h : St W w I F) : FreshB W w I F [] (.slice none 0 0) := ⟨none, 0, [], rfl, Row.nil _ _, h⟩

set_option maxRecDepth 100000 in
set_option maxHeartbeats 1000000 in
theorem clone_bytes (p : Part) (hp : p.In W I) (hlen : p.bs.length ≤ 140737488355328) (h : St W w I F) :
    Calls Tryd.prog 68 #[p.val] w fun e w' => ∃ v, e = .returned v ∧ FreshB W w' I F p.bs v := by
  unfold Part.val
  cases hA : p.A with
  | none =>
    have hb := hp.nil_of_none h hA
    rw [hb]
    have H := Lib.hid h
    clear h hp hb hlen
    have hq := fun c => run_eql_slice_nil' (P := Tryd.prog) 22 Tryd.underlying22 none 0 c
    go_enter Tryd.func68, Tryd.ntmps68
    go_wp2_with fail
    go_ret
    exact ⟨_, rfl, FreshB.nil H.out⟩
  | some ad =>
    have h2 := h.alloc (.cells #[] 5)
    have hsrc := hp _ _ h2
    rw [hA] at hsrc
    have hr := Row.empty 5 1 w.heap.size
    have hone : ∀ u ∈ p.bs.map bval, u.oneCell' = true := by intro u hu; obtain ⟨b, _, rfl⟩ := List.mem_map.1 hu; rfl
    have hq := fun l c => run_eql_slice_nil' (P := Tryd.prog) 22 Tryd.underlying22 (some ad) l c
    clear hp h
    go_enter Tryd.func68, Tryd.ntmps68
    go_wp2_with (at_builtin; refine Hid.out ?_)
    refine Lib.hid ?_
    refine wpList_append_row0 (F := F) rfl (.tmp 5) (.tmp 6) 22 rfl 5 (.int .u8 0) 1 1 Tryd.underlying22 (by kernel_rfl) rfl (by omega) rfl hr (by exact h2) rfl (by exact hsrc) hone p.bs.length (by omega) (p.bs.map bval) rfl (by unfold maxLen; omega) (by omega) ?_
    intro A1 c1 w2 L1 hr1 h3 ho
    have H3 := Lib.hid h3; have HR := Lib.hid hr1
    clear h3 hr1 ho h2 hsrc hr hone
    go_wp2_with fail
    go_ret
    exact ⟨_, rfl, _, _, _, rfl, HR.out, H3.out⟩

end
end

section
set_option linter.unusedVariables false
set_option linter.unusedSimpArgs false
open Go.RowKit Go.Lib Go.Shelf

section
variable {W w w' : World} {I : Nat → Option Obj} {L F : List (Nat × Obj)}
/-- Another's block turned, or new ones were laid. -/
theorem St.grown {B : Nat} {row : Option Nat} (h : St W w I L) (hI : ∀ b o, I b = some o → b < B) (hL : ∀ p ∈ L, p.1 < B ∨ p.2.isCells = true) (hg : w.grownBy w' row) (hr : ∀ r, row = some r → B ≤ r ∧ ∃ o : Obj, w.heap[r]? = some o ∧ o.isCells = false) : St W w' I L :=
  ⟨hg.os.trans h.os, hg.tape.trans h.tape, hg.output.trans h.output, fun p hp => (hg.block p.1 (h.lt hp) (fun e => by
      obtain ⟨h1, o, h2, h3⟩ := hr _ e.symm
      rcases hL p hp with h4 | h4
      · omega
      · rw [h.own p hp] at h2
        cases h2
        rw [h4] at h3
        cases h3)).trans (h.own p hp), h.nodup,
   fun b o hb => (hg.block b (Array.getElem?_eq_some_iff.1 (h.imm b o hb)).1 (fun e => by have := (hr _ e.symm).1; have := hI b o hb; omega)).trans (h.imm b o hb), h.apart⟩
theorem St.ilt (h : St W w I L) (b : Nat) (o : Obj) (hb : I b = some o) : b < w.heap.size := (Array.getElem?_eq_some_iff.1 (h.imm b o hb)).1
open Classical in
/-- All that isn't ours stays, too. -/
theorem St.others (h : St W w I L) : ∃ J, Le I J ∧ (∀ b o, w.heap[b]? = some o → (∀ p ∈ L, p.1 ≠ b) → J b = some o) ∧ St W w J L := by
  refine ⟨fun b => if ∃ p ∈ L, p.1 = b then none else w.heap[b]?, ?_, ?_, ⟨h.os, h.tape, h.output, h.own, h.nodup, ?_, ?_⟩⟩
  · intro b o hb
    have h1 := h.imm b o hb
    have h2 : ¬ ∃ p ∈ L, p.1 = b := by
      rintro ⟨p, hp, rfl⟩
      rw [h.apart p hp] at hb
      cases hb
    simp only [if_neg h2, h1]
  · intro b o ho hn
    have h2 : ¬ ∃ p ∈ L, p.1 = b := by
      rintro ⟨p, hp, he⟩
      exact hn p hp he
    simp only [if_neg h2, ho]
  · intro b o hb
    split at hb
    · cases hb
    · exact hb
  · intro p hp
    have h2 : ∃ q ∈ L, q.1 = p.1 := ⟨p, hp, rfl⟩
    simp only [if_pos h2]
theorem St.size_le {J : Nat → Option Obj} {L2 : List (Nat × Obj)} (hall : ∀ b o, w.heap[b]? = some o → (∀ p ∈ L, p.1 ≠ b) → J b = some o) (hk : ∀ p ∈ L, ∃ q ∈ L2, q.1 = p.1) (h' : St W w' J L2) : w.heap.size ≤ w'.heap.size := by
  rcases Nat.eq_zero_or_pos w.heap.size with h0 | h0
  · omega
  · have h1 : w.heap[w.heap.size - 1]? = some (w.heap[w.heap.size - 1]'(by omega)) := Array.getElem?_eq_getElem _
    by_cases hx : ∃ p ∈ L, p.1 = w.heap.size - 1
    · obtain ⟨p, hp, he⟩ := hx
      obtain ⟨q, hq, hqe⟩ := hk p hp
      have := h'.lt hq
      omega
    · have h2 := hall _ _ h1 (fun p hp he => hx ⟨p, hp, he⟩)
      have := h'.ilt _ _ h2
      omega
/-- A round's word on what isn't ours. -/
theorem St.keeps {J : Nat → Option Obj} {L2 : List (Nat × Obj)} (hall : ∀ b o, w.heap[b]? = some o → (∀ p ∈ L, p.1 ≠ b) → J b = some o) (hs : w.heap.size ≤ w'.heap.size) (hc : ∀ p ∈ L, p.2.isCells = false → p ∈ L2) (h : St W w I L) (h' : St W w' J L2) : KeepsOthers w w' :=
  ⟨hs, fun k o hk ho => by
    by_cases hx : ∃ p ∈ L, p.1 = k
    · obtain ⟨p, hp, rfl⟩ := hx
      have h1 := h.own p hp
      rw [hk] at h1
      cases h1
      exact h'.own p (hc p hp ho)
    · exact h'.imm _ _ (hall _ _ hk (fun p hp he => hx ⟨p, hp, he⟩))⟩
end

/-! ### In a round -/
section
variable {P : Program} {W w : World} {I : Nat → Option Obj} {F : List (Nat × Obj)} {fe : Fence} {nn : Nat}
theorem wpListIn_load_st {ops : Array Oper} {rest : List Oper} {o : Oper} {a : Act} {Q : Exit → Act → World → Prop} (hgd : o.guard = none) (ty : TypeId) (x : Operand) (ho : o.op = .load ty x) {g off : Nat} (hx : a.eval x = .pointer (some ⟨g, off, none⟩))
    {L : List (Nat × Obj)} (hst : St W w I L) {cs : Array Value} {t : TypeId} {fr : Nat × Nat} (hp : (g, Obj.cells cs t fr) ∈ L) (ys : Array Value) (hys : ∀ j, j < ys.size → cs[off + j]? = ys[j]?) (d : TypeDesc) (hu : P.underlying ty = some d) (hd : d.isRow = true)
    (hi : (P.info? ty).map (·.size) = some ys.size) (h : wpListIn fe nn P ops Q rest (a.put o.dst (.agg ys)) w) : wpListIn fe nn P ops Q (o :: rest) a w := by
  refine wpListIn_plain hgd fun K hK => ?_
  have hr := run_loadAt_mid (P := P) w g off ty ys.toList d (hst.rangeAt hp (by simpa using hys)) hu hd (by simpa using hi)
  rw [Array.toArray_toList] at hr
  unfold Oper.wpIn
  refine ⟨by simp [Oper.about, ho], ?_⟩
  rw [Oper.semAt_plain fe _ _ (by rw [ho]; intro c hc'; cases hc')]
  simp only [execOp, ho, hx, hr, Sem.run_bind, Sem.run_pure, Result.andThen_ok]
  exact hK _ _ h
theorem wpListIn_store_st {ops : Array Oper} {rest : List Oper} {o : Oper} {a : Act} {Q : Exit → Act → World → Prop} (hgd : o.guard = none) (ty : TypeId) (x y : Operand) (ho : o.op = .store ty x y) {g off : Nat} (cells : Array Value) (hx : a.eval x = .pointer (some ⟨g, off, none⟩)) (hy : a.eval y = .agg cells)
    {cs : Array Value} {t : TypeId} (hst : St W w I ((g, .cells cs t (0, 0)) :: F)) (hfit : off + cells.size ≤ cs.size) (hi : (P.info? ty).map (·.size) = some cells.size) (h1 : cells.all (·.oneCell') = true)
    (h : ∀ w', St W w' I ((g, .cells (setMany cs off cells.toList) t (0, 0)) :: F) → wpListIn fe nn P ops Q rest (a.put o.dst undef) w') : wpListIn fe nn P ops Q (o :: rest) a w := by
  refine wpListIn_plain hgd fun K hK => ?_
  have hr := run_storeAt_mid (P := P) w g off ty cells (fun j hj => ⟨by rw [hst.cell (g := g) (cs := cs) (t := t) (fr := (0, 0)) (by simp)]; simp; omega, hst.frozen (g := g) (cs := cs) (t := t) (by simp) _⟩) hi h1
  unfold Oper.wpIn
  refine ⟨by simp [Oper.about, ho], ?_⟩
  rw [Oper.semAt_plain fe _ _ (by rw [ho]; intro c hc'; cases hc')]
  simp only [execOp, ho, hx, hy, hr, Sem.run_bind, Sem.run_pure, Result.andThen_ok]
  exact hK _ _ (h _ (St.setCells _ _ _ _ hst))
theorem wpListIn_append_row {ops : Array Oper} {rest : List Oper} {o : Oper} {a : Act} {Q : Exit → Act → World → Prop} (hgd : o.guard = none) (s x : Operand) (t : TypeId)
    (ho : o.op = .call { callee := .builtin .append, args := #[s, x], argTypes := #[t, t] })
    (e : TypeId) (z : Value) (size bytes : Nat) (ht : P.underlying t = some (.slice e)) (hi : (P.info? e).map (fun i => (i.zero, i.size, i.bytes)) = some (some z, size, bytes)) (hzs : z.cells.size = size) (hsz : 0 < size)
    {v : Value} {n : Nat} {xs : List Value} {L : List (Nat × Obj)} (hs : a.eval s = v) (hrow : Row e size v n xs L) (hst : St W w I (L ++ F)) {A : Option Addr} {m c : Nat} {news : List Value} (hx : a.eval x = .slice A m c) (hsrc : Src w size A m news) (h1 : ∀ u ∈ news, u.oneCell' = true)
    (k : Nat) (hk : n + m = k) (ys : List Value) (hys : xs ++ news = ys) (h63 : k ≤ maxLen) (hbytes : k * bytes ≤ 140737488355328)
    (h : ∀ A' c' w' L', Row e size (.slice A' k c') k ys L' → St W w' I (L' ++ F) → wpListIn fe nn P ops Q rest (a.put o.dst (.slice A' k c')) w') : wpListIn fe nn P ops Q (o :: rest) a w := by
  subst hk
  subst hys
  refine wpListIn_plain hgd fun K hK => ?_
  obtain ⟨v', w', L', hr, h2, h3⟩ := run_append_row (P := P) t o.type e z size bytes ht hi hzs hsz hrow hst (c := c) hsrc h1 h63 hbytes
  obtain ⟨A', c', rfl⟩ := h2.shape
  unfold Oper.wpIn
  refine ⟨by simp [Oper.about, ho, resolve, Target.leads, Sem.run_pure], ?_⟩
  rw [Oper.semAt_plain fe _ _ (by rw [ho]; intro c hc'; cases hc')]
  simp only [execOp, ho, resolve, invoke, builtin, Sem.run_bind, Sem.run_pure, Result.andThen_ok, List.map_toArray, List.map_cons, List.map_nil, hs, hx, hr]
  exact hK _ _ (h A' c' w' L' h2 h3)
end
end

section
set_option linter.unusedVariables false
set_option linter.unusedSimpArgs false
open Go.RowKit Go.Lib Go.Shelf
attribute [local go_sem] Oper.semAt_some

/-- What a round keeps: two blocks. -/
def Kc (b1 b2 : Nat) (A B : World) : Prop := ∀ b, b = b1 ∨ b = b2 → B.heap[b]? = A.heap[b]?
theorem Kc_t {b1 b2 : Nat} {A B C : World} (h : Kc b1 b2 A B) (k : Kc b1 b2 B C) : Kc b1 b2 A C := fun b hb => (k b hb).trans (h b hb)
theorem Kc_b {b1 b2 N : Nat} (h1 : b1 < N) (h2 : b2 < N) (W : World) (l : Nat) (o o' : Obj) (hl : N ≤ l) (_h : W.heap[l]? = some o) (_h : o.isCells = false) (_h : o.isWalk = false) : Kc b1 b2 W (W.putObj l o') := fun b hb =>
  World.putObj_heap_other (by omega)
structure BoxAt (A0 : Option Addr) (len cap : Nat) (q : Nat) (b1 b2 : Nat) (W : World) : Prop where
  s : W.heap[b1]? = some (.cells #[.slice A0 len cap] 22 (0, 0))
  n : W.heap[b2]? = some (.cells #[.int .i64 q] 3 (0, 0))
theorem BoxAt.kept {A0 : Option Addr} {len cap q b1 b2 : Nat} {A B : World} (h : BoxAt A0 len cap q b1 b2 A) (k : Kc b1 b2 A B) : BoxAt A0 len cap q b1 b2 B := ⟨(k _ (.inl rfl)).trans h.s, (k _ (.inr rfl)).trans h.n⟩
theorem BoxAt.drew {A0 : Option Addr} {len cap q b1 b2 : Nat} {A : World} (h : BoxAt A0 len cap q b1 b2 A) (m : Nat) : BoxAt A0 len cap q b1 b2 (A.drewN m) := ⟨h.s, h.n⟩

/-- How many chunks; how long one is. -/
def chN (len q : Nat) : Nat := (len + q - 1) / q
theorem chN_iff {len q k : Nat} (hq : 1 ≤ q) : k < chN len q ↔ k * q < len := by
  unfold chN
  rw [Nat.lt_iff_add_one_le, Nat.le_div_iff_mul_le hq, Nat.add_mul]
  omega
def clen (len q k : Nat) : Nat := min q (len - k * q)
theorem chunkAt_clen (bs : List UInt8) (q k : Nat) : (chunkAt bs q k).length = clen bs.length q k := by simp [chunkAt, clen]
def cenc (A0 : Option Addr) (len q : Nat) (k : Nat) : Array Value := #[.slice (A0.map (·.add (k * q))) (clen len q k) (clen len q k)]
/-- Two bounds and the room. -/
theorem run_slice_full {P : Program} {t e : TypeId} (ht : P.underlying t = some (.slice e)) (hs : ∀ w, (sizeOf e).run P w = .ok 1 w) (A : Option Addr) (n c l h : Nat) (hl : l < h) (hc : h ≤ c) (w : World) :
    (Instr.slice t (.slice A n c) (some (.int .i64 (l : Int))) (some (.int .i64 (h : Int))) (some (.int .i64 (h : Int)))).run P w = .ok (.slice (A.map (·.add l)) (h - l) (h - l)) w := by
  have h1 : (0 : Int) ≤ h ∧ (h : Int) ≤ c := by omega
  have h2 : (0 : Int) ≤ l ∧ (l : Int) ≤ h := by omega
  have h3 : (l : Int) ≤ h := by omega
  have h4 : ¬ h - l = 0 := by omega
  have h5 : (h : Int) ≤ c := by omega
  have h6 : l ≤ h := by omega
  simp [Instr.slice, run_underlying ht, Instr.sliceBounds, Instr.sliceBound, asIntOf, hs, h3, h4, h5, h6, hc]
  intro h7
  omega
theorem run_slice_from' {P : Program} {t e : TypeId} (ht : P.underlying t = some (.slice e)) (hs : ∀ w, (sizeOf e).run P w = .ok 1 w) (A : Option Addr) (n c k : Nat) (hk : k ≤ n) (hc : n ≤ c) (w : World) :
    (Instr.slice t (.slice A n c) (some (.int .i64 (k : Int))) none none).run P w = .ok (.slice (subA A c k) (n - k) (c - k)) w := run_slice_from ht hs A n c k hk hc w

def ChunkDone (J Jx : List Nat → World → Prop) (N : Nat) (e : Ending) (W' : World) : Prop := (∃ v, e = .returned v) ∧ ((∃ ys, ys = List.range N ∧ J ys W') ∨ (∃ pre, (∃ k, k ≤ N ∧ pre = List.range k) ∧ Jx pre W'))
def CPost (J Jx : List Nat → World → Prop) (b1 b2 : Nat) (pre : List Nat) (x : Nat) (W : World) : Bool → World → Prop
  | true, W' => J (pre ++ [x]) W' ∧ Kc b1 b2 W W'
  | false, W' => Jx (pre ++ [x]) W'

set_option maxRecDepth 100000 in
set_option maxHeartbeats 1000000 in
theorem chunk1_in (n : Nat) (hn : 1 ≤ n) (l b1 b2 : Nat) (A0 : Option Addr) (cap len q : Nat) (hq : 1 ≤ q) (hq2 : q ≤ 9223372036854775807) (hl : len ≤ 1000000) (hcap : len ≤ cap) (J Jx : List Nat → World → Prop) (hJd : ∀ pre W m, J pre W → J pre (W.drewN m))
    (hY : ∀ pre x W, J pre W → pre.length < chN len q → YieldAt Fence.wide (n - 1) Tryd.prog l (cenc A0 len q x) W fun e W' =>
      (e = .returned (.bool true) ∧ J (pre ++ [x]) W' ∧ Kc b1 b2 W W') ∨ (e = .returned (.bool false) ∧ Jx (pre ++ [x]) W'))
    (W : World) (hR : BoxAt A0 len cap q b1 b2 W) (h0 : J [] W) :
    CallsIn Fence.wide n Tryd.prog 69 #[.func (.yield l) #[] #[], .pointer (some ⟨b1, 0, none⟩), .pointer (some ⟨b2, 0, none⟩)] W (ChunkDone J Jx (chN len q)) := by
  have cells : ∀ wr, BoxAt A0 len cap q b1 b2 wr → wr.cell? ⟨b1, 0, none⟩ = some (.slice A0 len cap) ∧ wr.cell? ⟨b2, 0, none⟩ = some (.int .i64 q) := fun wr h =>
    ⟨cell_of_row wr _ 0 _ _ _ h.s, cell_of_row wr _ 0 _ _ _ h.n⟩
  have CELLS := Lib.hid cells
  obtain ⟨c1, c2⟩ := cells W hR
  refine callsIn_of_wp Tryd.func69 rfl trivial ?_ rfl
  simp only [Tryd.ntmps69, List.size_toArray, List.length_cons, List.length_nil, Nat.reduceAdd, Nat.reduceSub, Array.replicate_succ, Array.replicate_zero, List.push_toArray, List.append_toArray, List.nil_append, List.cons_append]
  gi_wp2
  clear c1 c2 cells
  gi_loopw [4] (fun i wr => ∃ k P : Nat, k ≤ chN len q ∧ k * q = P ∧ i = .int .i64 P ∧ J (List.range k) wr ∧ BoxAt A0 len cap q b1 b2 wr) (fun i _ => chN len q * q - (intOf i).toNat)
  case atStart => exact ⟨0, 0, Nat.zero_le _, by omega, rfl, h0, hR⟩
  case round =>
    obtain ⟨k, P, hk, hP, rfl, hJs, hr⟩ := hrel
    clear h0 hR
    obtain ⟨c1, c2⟩ := CELLS.out wr hr
    by_cases hlt : P < len
    · have hkl : k < chN len q := (chN_iff hq).2 (by omega)
      have hPi : (P : Int) < (len : Int) := by omega
      have hP0 : (0 : Int) ≤ (P : Int) := by omega
      have hPl : (P : Int) ≤ (len : Int) := by omega
      obtain ⟨c, hc⟩ : ∃ c, clen len q k = c := ⟨_, rfl⟩
      have hc0 : 1 ≤ c ∧ P + c ≤ len ∧ (c = min q (len - P)) := by rw [← hc]; unfold clen; rw [hP]; omega
      obtain ⟨hc1, hc2, hc3⟩ := hc0
      have hmin2 : min (q : Int) ((len - P : Nat) : Int) = (c : Int) := by omega
      have HMN := Lib.hid hc3
      clear hc3
      obtain ⟨E, hE⟩ : ∃ E, P + c = E := ⟨_, rfl⟩
      have hEi : (P : Int) + (c : Int) = (E : Int) := by omega
      have sl := fun w => run_slice_full (P := Tryd.prog) Tryd.underlying22 Tryd.sizeOf5 A0 len cap P E (by omega) (by omega) w
      have sl2 := fun w => run_slice_from' (P := Tryd.prog) Tryd.underlying22 Tryd.sizeOf5 A0 len cap P (by omega) hcap w
      rw [show E - P = c by omega] at sl
      have hyld := hY (List.range k) k wr hJs (by rw [List.length_range]; exact hkl)
      have hyd : ∀ m, ∃ fn tmps assign body, (Instr.yield l #[.slice (A0.map (·.add P)) c c]).run Tryd.prog (wr.drewN m) = .ok (.round l fn tmps assign body) (wr.drewN m) ∧ RoundIn Fence.wide (n - 1) Tryd.prog l fn tmps assign body (wr.drewN m) fun e W' => ∃ b, e = .returned (.bool b) ∧ CPost J Jx b1 b2 (List.range k) k wr b W' := fun m => by
        have h9 := hY (List.range k) k (wr.drewN m) (hJd _ _ m hJs) (by rw [List.length_range]; exact hkl)
        unfold cenc at h9
        rw [hP, hc] at h9
        refine YieldAt.mono h9 ?_
        rintro e W' (⟨rfl, h1, h2⟩ | ⟨rfl, h1⟩)
        · exact ⟨true, rfl, h1, h2⟩
        · exact ⟨false, rfl, h1⟩
      have hqP : (P : Int) + (q : Int) ≤ 9223372036854775807 := by
        rcases Nat.eq_zero_or_pos k with h | h
        · subst h; simp at hP; omega
        · have := Nat.le_mul_of_pos_left q h
          omega
      have HYD := Lib.hid hyd; have HP := Lib.hid hP
      clear hyld hyd hP hE hc
      gi_wp2
      refine (wpIn_wide (n := n)).2 ?_
      go_quiet (fail)
      obtain ⟨fn, tmps, assign, body, hy, hR2⟩ := HYD.out nq
      have c1' : (wr.drewN nq).cell? ⟨b1, 0, none⟩ = some (.slice A0 len cap) := c1
      clear HYD
      gi_wp2
      refine hR2.mono ?_
      rintro e W3 ⟨b, rfl, hb⟩
      cases b with
      | true =>
        obtain ⟨hJ3, hk3⟩ := hb
        obtain ⟨d1, d2⟩ := CELLS.out W3 ((hr.drew nq).kept hk3)
        clear c1 c2 c1' hy hR2
        gi_wp2
        go_roundw
        case rel => exact ⟨k + 1, P + q, by omega, by rw [Nat.add_mul, HP.out]; omega, by go_num, by rw [List.range_succ]; exact hJ3, (hr.drew nq).kept hk3⟩
        case measure =>
          have h1 : P < chN len q * q := by
            rw [← HP.out]
            exact Nat.mul_lt_mul_of_pos_right hkl (by omega)
          simp [intOf]; omega
      | false =>
        have hJx3 : Jx _ _ := hb
        clear c1 c2 c1' hy hR2
        gi_wp2
        refine bodyPost_ret (results_none rfl _ _ _) rfl ?_
        exact ⟨⟨_, rfl⟩, .inr ⟨_, ⟨k + 1, by omega, by rw [List.range_succ]⟩, hJx3⟩⟩
    · have hke : k = chN len q := by
        rcases Nat.lt_or_ge k (chN len q) with h | h
        · have := (chN_iff hq).1 h; omega
        · omega
      have hPn : ¬ (P : Int) < (len : Int) := by omega
      have HKE := Lib.hid hke; have HJS := Lib.hid hJs
      clear hP hk hJs hlt hke
      gi_wp2
      go_end0
      exact ⟨⟨_, rfl⟩, .inl ⟨_, by rw [← HKE.out], HJS.out⟩⟩
end

section
set_option linter.unusedVariables false
set_option linter.unusedSimpArgs false
open Go.RowKit Go.Lib Go.Shelf
attribute [local go_sem] Oper.semAt_some

theorem chunk_stops (n : Nat) (hn : 1 ≤ n) (b1 b2 : Nat) (A0 : Option Addr) (cap len q : Nat) (hq : 1 ≤ q) (hq2 : q ≤ 9223372036854775807) (hl : len ≤ 1000000) (hcap : len ≤ cap) (w : World) (h1 : b1 < w.heap.size) (h2 : b2 < w.heap.size) (hR : BoxAt A0 len cap q b1 b2 w) :
    SeqStopsK Fence.wide n Tryd.prog 69 #[.pointer (some ⟨b1, 0, none⟩), .pointer (some ⟨b2, 0, none⟩)] (fun k : Nat => #[.slice (A0.map (·.add (k * q))) (clen len q k) (clen len q k)]) (Kc b1 b2) (fun ys => ys = List.range (chN len q)) (fun pre => ∃ k, k ≤ chN len q ∧ pre = List.range k) (chN len q) w := fun l J Jx W hW hJ _ hY h0 => by
  refine chunk1_in n hn l b1 b2 A0 cap len q hq hq2 hl hcap J Jx (fun pre W1 m hj => hJ pre W1 _ none hj ⟨rfl, rfl, rfl, Nat.le_refl _, fun _ _ _ => rfl⟩ (fun r e => by cases e)) hY W ?_ h0
  exact ⟨(hW.block _ h1).trans hR.s, (hW.block _ h2).trans hR.n⟩

section
variable {W w : World} {I : Nat → Option Obj} {F : List (Nat × Obj)}
set_option maxRecDepth 100000 in
set_option maxHeartbeats 1000000 in
theorem chunk_new (A0 : Option Addr) (len cap q : Nat) (hq : 1 ≤ q) (h : St W w I F) : Calls Tryd.prog 42 #[.slice A0 len cap, .int .i64 q] w fun e w' =>
    ∃ b, e = .returned (.func (.func 69) #[] #[.pointer (some ⟨b, 0, none⟩), .pointer (some ⟨b + 1, 0, none⟩)]) ∧ St W w' I ((b + 1, .cells #[.int .i64 q] 3 (0, 0)) :: (b, .cells #[.slice A0 len cap] 22 (0, 0)) :: F) := by
  have h1 := (h.alloc (.cells #[.slice A0 len cap] 22)).alloc (.cells #[.int .i64 q] 3)
  rw [World.size_alloc] at h1
  have hqi : (1 : Int) ≤ (q : Int) := by omega
  have H1 := Lib.hid h1
  clear h h1
  go_enter Tryd.func42, Tryd.ntmps42
  go_wp2_with fail
  go_ret
  exact ⟨_, rfl, H1.out⟩
end

theorem cpart {A0 : Option Addr} {cap q : Nat} {bs : List UInt8} {W : World} {I : Nat → Option Obj} (hp : Part.In ⟨A0, cap, bs⟩ W I) (hcap : bs.length ≤ cap) (x : Nat) : Part.In ⟨A0.map (·.add (x * q)), clen bs.length q x, chunkAt bs q x⟩ W I := by
  by_cases h : x * q < bs.length
  · have h1 := Part.In_take (clen bs.length q x) q (Part.In_drop (cap - x * q) (x * q) hcap hp)
    unfold subA at h1
    rw [if_neg (by omega)] at h1
    exact h1
  · have h1 : chunkAt bs q x = [] := by
      apply List.eq_nil_of_length_eq_zero
      rw [chunkAt_clen]; unfold clen; omega
    rw [h1]
    exact Part.In_nil _ _
end
end Go.Proofs.YtfbffmckmchbbaaDoor
