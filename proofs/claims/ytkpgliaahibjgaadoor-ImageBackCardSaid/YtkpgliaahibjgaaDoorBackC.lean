/- ImageBack: what Take answers at a piece; appends beside a stream, behind a guard that says yes. -/
import Derived.Test.YtkpgliaahibjgaaDoorBackB
import Derived.Test.YtkpgliaahibjgaaDoorLcut
namespace Go.Proofs.YtkpgliaahibjgaaDoor
set_option linter.unusedVariables false
set_option linter.unusedSimpArgs false
open Go.RowKit Go.Lib

theorem back_errs {m : Man} {hs : List (List UInt8)} {bs : List UInt8} {q n : Nat} (hr : rightM m = true) (hms : (bs.length : Int) = m.size) (hn : m.n = hs.length) (hhs : hs = hashes bs q n) (hq : m.chunk.toNat = q) {k : Nat} (hk : k < m.n) :
    (∀ b, takeErr m hs k ((k : Int) + 1) b = 151) ∧ takeErr m hs k k (cutAt m bs k ++ [0]) = 152 ∧ (∀ xs, hashOf xs ≠ hashOf (cutAt m bs k) → takeErr m hs k k xs = 152) ∧ takeErr m hs k k (cutAt m bs k) = 0 := by
  have hkn : (k : Int) ≠ m.n := by omega
  have hg : hs[k]? = some (hashOf (cutAt m bs k)) := by
    rw [cut_chunk hr hms hk, hq, hhs]
    refine hashes_at ?_
    rw [hhs, hashes_len] at hn
    omega
  have hl := cutAt_len hr hms k
  refine ⟨fun b => ?_, ?_, fun xs hx => ?_, takeErr_ok hkn hl hg⟩
  · unfold takeErr
    rw [if_pos (.inr (by omega))]
  · unfold takeErr
    rw [if_neg (by simp [hkn]), if_pos]
    refine .inl ?_
    rw [← hl, List.length_append, List.length_singleton]
    omega
  · unfold takeErr
    rw [if_neg (by simp [hkn]), if_pos]
    refine .inr ?_
    rw [List.getD_eq_getElem?_getD, hg]
    exact hx

section
variable {W w : World} {J : Nat → Option Obj} {X L0 : List (Nat × Obj)} {s g want : Nat} {m : Man} {bs : List UInt8}
/-- An append of bytes beside a stream; the row may turn on. -/
theorem wpList_append_strm {ops : Array Oper} {rest : List Oper} {o : Oper} {a : Act} {Q : Exit → Act → World → Prop} (hw : Region.wanted o (yielded ops a.tmps) = true) (sx x : Operand) (t : TypeId)
    (ho : o.op = .call { callee := .builtin .append, args := #[sx, x], argTypes := #[t, t] }) (ht : Tryd.prog.underlying t = some (.slice 5))
    {v : Value} {n : Nat} {xs ys : List UInt8} (hs : a.eval sx = v) (hrow : Row 5 1 v n (xs.map bval) L0) (hst : Strm W w J s g m bs want (L0 ++ X)) {A : Option Addr} {l c : Nat} (hx : a.eval x = .slice A l c) (hl : l = ys.length) (hin : Part.In ⟨A, c, ys⟩ W J)
    (k : Nat) (hk : n + l = k) (h63 : k ≤ 1000000)
    (h : ∀ A' c' w' L', Row 5 1 (.slice A' k c') k ((xs ++ ys).map bval) L' → Strm W w' J s g m bs want (L' ++ X) → wpList Tryd.prog ops Q rest (a.put o.dst (.slice A' k c')) w') :
    wpList Tryd.prog ops Q (o :: rest) a w := by
  refine wpList_step fun K hK => ?_
  rw [if_pos hw]
  obtain ⟨G, hG, hst2⟩ := hst
  have h3 := St.swap (A := G ++ [(s, Obj.cells (sCells m g want) 71 (0, 0))]) (B := L0) (F := X) (by simpa using hst2)
  have hsrc := hin _ _ h3
  have hone : ∀ u ∈ ys.map bval, u.oneCell' = true := by intro u hu; obtain ⟨b, _, rfl⟩ := List.mem_map.1 hu; rfl
  subst hl
  subst hk
  obtain ⟨v', w', L', hr, h2, h3'⟩ := run_append_row (P := Tryd.prog) t o.type 5 (.int .u8 0) 1 1 ht (by kernel_rfl) rfl (by omega) hrow h3 (c := c) hsrc hone (by show n + ys.length ≤ _; unfold maxLen; omega) (by show (n + ys.length) * 1 ≤ _; omega)
  unfold Oper.wp execOp
  simp only [ho, resolve, invoke, builtin, Sem.run_bind, Sem.run_pure, Result.andThen_ok, List.map_toArray, List.map_cons, List.map_nil, hs, hx, hr]
  obtain ⟨A', c', rfl⟩ := h2.shape
  refine hK _ _ (h A' c' w' L' (by rw [List.map_append]; exact h2) ⟨G, hG, ?_⟩)
  have h9 := St.swap (A := L') (B := G ++ [(s, Obj.cells (sCells m g want) 71 (0, 0))]) (F := X) (by simpa using h3')
  simpa using h9
/-- Bytes beside a stream that turn no more. -/
theorem strm_freeze {A : Option Addr} {c n : Nat} {xs : List UInt8} (hn : n = xs.length) (hr : Row 5 1 (.slice A n c) n (xs.map bval) L0) (h : Strm W w J s g m bs want (L0 ++ X)) : ∃ J', Le J J' ∧ Part.In ⟨A, c, xs⟩ W J' ∧ Strm W w J' s g m bs want X := by
  subst hn
  obtain ⟨G, hG, hst⟩ := h
  have h3 := St.swap (A := G ++ [(s, Obj.cells (sCells m g want) 71 (0, 0))]) (B := L0) (F := X) (by simpa using hst)
  obtain ⟨J', h1, h2, h4⟩ := part_freeze hr h3
  exact ⟨J', h1, h2, G, hG, by simpa using h4⟩
/-- A fresh block beside a stream. -/
theorem strm_alloc (h : Strm W w J s g m bs want X) (o : Obj) : Strm W (w.alloc o) J s g m bs want ([(w.heap.size, o)] ++ X) :=
  Digs.permF (Digs.alloc h o) (List.Perm.swap _ _ _)
theorem row_zero (g : Nat) : Row 5 1 (.slice (some ⟨g, 0, none⟩) 1 1) 1 (([0] : List UInt8).map bval) [(g, .cells #[.int .u8 0] 5 (0, 0))] := Row.whole 5 1 g 1 #[.int .u8 0] rfl (by unfold maxLen; omega)
end
end Go.Proofs.YtkpgliaahibjgaaDoor
