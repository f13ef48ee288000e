/- A struct of thirty-two bytes and more, built. slot: what a slot becomes: walks. Nothing of its own. -/
import Derived.Test.YtjcekmmieihllaaDoorParts
import Derived.Test.YtjcekmmieihllaaDoorSlotB
namespace Go.Proofs.YtjcekmmieihllaaDoor
section
set_option linter.unusedVariables false
set_option linter.unusedSimpArgs false
open Go.RowKit Go.Lib

theorem thirtytwo {α : Type} (l : List α) (h : l.length = 32) : ∃ d0 d1 d2 d3 d4 d5 d6 d7 d8 d9 d10 d11 d12 d13 d14 d15 d16 d17 d18 d19 d20 d21 d22 d23 d24 d25 d26 d27 d28 d29 d30 d31, l = [d0, d1, d2, d3, d4, d5, d6, d7, d8, d9, d10, d11, d12, d13, d14, d15, d16, d17, d18, d19, d20, d21, d22, d23, d24, d25, d26, d27, d28, d29, d30, d31] := by
  match l, h with
  | [d0, d1, d2, d3, d4, d5, d6, d7, d8, d9, d10, d11, d12, d13, d14, d15, d16, d17, d18, d19, d20, d21, d22, d23, d24, d25, d26, d27, d28, d29, d30, d31], _ => exact ⟨d0, d1, d2, d3, d4, d5, d6, d7, d8, d9, d10, d11, d12, d13, d14, d15, d16, d17, d18, d19, d20, d21, d22, d23, d24, d25, d26, d27, d28, d29, d30, d31, rfl⟩
theorem wpList_build_st {P : Program} {w : World} {ops : Array Oper} {rest : List Oper} {o : Oper} {a : Act} {Q : Exit → Act → World → Prop} (hgd : o.guard = none) (t : TypeId) (ps : Array (Nat × Operand)) (ho : o.op = .build t ps)
    (vs : Array (Nat × Value)) (hvs : (ps.map fun (i, x) => (i, a.eval x)) = vs) {v : Value} (hr : (Instr.build t vs).run P w = .ok v w) (h : wpList P ops Q rest (a.put o.dst v) w) : wpList P ops Q (o :: rest) a w := by
  refine wpList_plain hgd fun K hK => ?_
  subst hvs
  unfold Oper.wp execOp
  simp only [ho, Sem.run_bind, hr, Result.andThen_ok]
  exact hK _ _ h
end

section
set_option linter.unusedVariables false
set_option linter.unusedSimpArgs false
open Go.RowKit Go.Lib

theorem Slt.set0 (s : Slt) (x : Int) : s.cells.setIfInBounds 0 (.int .i64 x) = ({ s with st := x } : Slt).cells := by
  unfold Slt.cells
  simp
theorem Slt.set1 (s : Slt) (x : Int) : s.cells.setIfInBounds 1 (.int .i64 x) = ({ s with tr := x } : Slt).cells := by
  unfold Slt.cells
  simp
theorem slot_fit {s t : Slt} (hs : s.dig.length = 32) (ht : t.dig.length = 32) : 0 + t.cells.size ≤ s.cells.size ∧ setMany s.cells 0 t.cells.toList = t.cells := by
  refine ⟨by rw [Slt.size hs, Slt.size ht]; omega, ?_⟩
  rw [setMany_whole _ _ (by rw [Array.length_toList, Slt.size hs, Slt.size ht]), Array.toArray_toList]
theorem rightS_try (s : Slt) (h : rightS s = true) (h2 : s.st = 2) : 0 ≤ s.tr ∧ s.tr ≤ 7 := by
  unfold rightS at h
  rw [h2] at h
  simp at h
  omega
/-- Two results, one of them a slot in memory: what a slot becomes. -/
theorem slot_ret {fn : Func} {p q : Tmp} {w : World} {I : Nat → Option Obj} {L F : List (Nat × Obj)} {W : World} {g : Nat} {t : Slt} {e : Int} {tmps : Array Value} (hst : St W w I ((g, .cells t.cells 39 (0, 0)) :: L)) (ht : t.dig.length = 32)
    (h : fn.results = #[.cell p 39, .tmp q]) (hp : tmps.getD p undef = .pointer (some ⟨g, 0, none⟩)) (hq : tmps.getD q undef = .int .i64 e) :
    (results fn tmps).run Tryd.prog w = .ok (.tuple #[.agg t.cells, .int .i64 e]) w :=
  results_row_tmp h _ w g 39 t.cells (0, 0) _ _ hp hq (hst.own (g, .cells t.cells 39 (0, 0)) (by simp)) Tryd.underlying39 (by kernel_rfl) (slot_info ht)

section
variable {W w : World} {I : Nat → Option Obj} {F : List (Nat × Obj)}
theorem run_build_slot3 (ver sz : Int) (ds : List UInt8) (hd : ds.length = 32) (w : World) :
    (Instr.build 39 #[(0, .int .i64 3), (2, .int .u64 ver), (3, .int .i64 sz), (4, .agg (bcells ds))]).run Tryd.prog w = .ok (.agg (⟨3, 0, ver, sz, ds⟩ : Slt).cells) w := by
  obtain ⟨d0, d1, d2, d3, d4, d5, d6, d7, d8, d9, d10, d11, d12, d13, d14, d15, d16, d17, d18, d19, d20, d21, d22, d23, d24, d25, d26, d27, d28, d29, d30, d31, rfl⟩ := thirtytwo ds hd
  kernel_rfl
theorem run_build_slot5 (st tr ver sz : Int) (ds : List UInt8) (hd : ds.length = 32) (w : World) :
    (Instr.build 39 #[(0, .int .i64 st), (1, .int .i64 tr), (2, .int .u64 ver), (3, .int .i64 sz), (4, .agg (bcells ds))]).run Tryd.prog w = .ok (.agg (⟨st, tr, ver, sz, ds⟩ : Slt).cells) w := by
  obtain ⟨d0, d1, d2, d3, d4, d5, d6, d7, d8, d9, d10, d11, d12, d13, d14, d15, d16, d17, d18, d19, d20, d21, d22, d23, d24, d25, d26, d27, d28, d29, d30, d31, rfl⟩ := thirtytwo ds hd
  kernel_rfl
/-- What is left by a function that makes another slot of one. -/
def SPost (W : World) (I : Nat → Option Obj) (F : List (Nat × Obj)) (r : Slt × Int) (e : Ending) (w' : World) : Prop := e = .returned (.tuple #[.agg r.1.cells, .int .i64 r.2]) ∧ St W w' I F
set_option maxRecDepth 100000 in
set_option maxHeartbeats 4000000 in
theorem slot_full (s : Slt) (ok : s.Ok) (h : St W w I F) :
    Calls Tryd.prog 82 #[s.val] w fun e w' => e = .returned (.bool (fullS s)) ∧ St W w' I F := by
  have h0 := h.alloc (.cells s.cells 39)
  obtain ⟨b, hb⟩ : ∃ b, w.heap.size = b := ⟨_, rfl⟩
  rw [hb] at h0
  obtain ⟨c0, c1, c2, c3⟩ := h0.slt
  clear c1 c2 c3
  unfold Slt.val fullS
  obtain ⟨q1, q2, q3, q4, q5, q6, q7, q8, q9⟩ := ok
  clear q1
  generalize s.cells = C at *
  generalize s.st = st at *
  have H0 := Lib.hid h0
  clear h0 h q4 q5 q6 q7 q8 q9
  by_cases k : st = 2
  · subst k
    go_enter Tryd.func82, Tryd.ntmps82
    go_wp2_with fail
    go_ret
    exact ⟨rfl, St.weaken (A := [_]) H0.out⟩
  · have k2 : (st == 2) = false := beq_eq_false_iff_ne.2 k
    go_enter Tryd.func82, Tryd.ntmps82
    go_wp2_with fail
    go_ret
    exact ⟨by rw [k2]; rfl, St.weaken (A := [_]) H0.out⟩
end
end

section

end
end Go.Proofs.YtjcekmmieihllaaDoor
