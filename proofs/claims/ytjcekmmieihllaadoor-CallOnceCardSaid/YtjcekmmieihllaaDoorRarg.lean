/- Arguments: a reply. -/
import Derived.Test.YtjcekmmieihllaaDoorCaV
namespace Go.Proofs.YtjcekmmieihllaaDoor
set_option linter.unusedVariables false
set_option linter.unusedSimpArgs false
set_option linter.unnecessarySimpa false
open Go.RowKit Go.Lib Go.Shelf

section
variable {H : Type} {enc : TypeId × Value → H} {W : World}
theorem Cel.slot {cs : List Value} (h2 : Cel enc Tryd.prog W 39 cs) : ∃ s : Slt, cs = s.cells.toList ∧ s.Ok := by
  obtain ⟨hl, hf⟩ := h2.struct_ Tryd.underlying39
  have hl : cs.length = 36 := by rw [hl]; kernel_rfl
  have f0 : Cel enc Tryd.prog W 3 ((cs.drop 0).take (Tryd.prog.cellsOf 3)) := hf 0 _ rfl
  have f1 : Cel enc Tryd.prog W 3 ((cs.drop 1).take (Tryd.prog.cellsOf 3)) := hf 1 _ rfl
  have f2 : Cel enc Tryd.prog W 35 ((cs.drop 2).take (Tryd.prog.cellsOf 35)) := hf 2 _ rfl
  have f3 : Cel enc Tryd.prog W 3 ((cs.drop 3).take (Tryd.prog.cellsOf 3)) := hf 3 _ rfl
  have f4 : Cel enc Tryd.prog W 37 ((cs.drop 4).take (Tryd.prog.cellsOf 37)) := hf 4 _ rfl
  rw [show Tryd.prog.cellsOf 3 = 1 by kernel_rfl] at f0 f1 f3
  rw [show Tryd.prog.cellsOf 35 = 1 by kernel_rfl] at f2
  rw [show Tryd.prog.cellsOf 37 = 32 by kernel_rfl] at f4
  obtain ⟨n0, e0, w0⟩ := f0.int Tryd.underlying3
  obtain ⟨n1, e1, w1⟩ := f1.int Tryd.underlying3
  obtain ⟨n2, e2, w2⟩ := f2.int Tryd.underlying35
  obtain ⟨n3, e3, w3⟩ := f3.int Tryd.underlying3
  obtain ⟨ds, hd, e4⟩ := cel_hash f4
  obtain ⟨a0, b0⟩ := wf_i64 w0
  obtain ⟨a1, b1⟩ := wf_i64 w1
  obtain ⟨a3, b3⟩ := wf_i64 w3
  have w2' : 0 ≤ n2 ∧ n2 ≤ 18446744073709551615 := by
    simp [Lit.wf, IntKind.min, IntKind.max, IntKind.signed, IntKind.bits] at w2
    exact w2
  refine ⟨⟨n0, n1, n2, n3, ds⟩, ?_, ⟨hd, a0, b0, a1, b1, w2'.1, w2'.2, a3, b3⟩⟩
  have hcs : cs = [.int .i64 n0, .int .i64 n1, .int .u64 n2, .int .i64 n3] ++ ds.map bval := by
    have e5 : cs = (cs.drop 0).take 1 ++ ((cs.drop 1).take 1 ++ ((cs.drop 2).take 1 ++ ((cs.drop 3).take 1 ++ (cs.drop 4).take 32))) := by
      have a : ∀ k, cs.drop k = (cs.drop k).take 1 ++ cs.drop (k + 1) := fun k => by
        have h := (List.take_append_drop 1 (cs.drop k)).symm
        rwa [List.drop_drop] at h
      have b : (cs.drop 4).take 32 = cs.drop 4 := List.take_of_length_le (by rw [List.length_drop]; omega)
      rw [b]
      exact (a 0).trans (congrArg _ ((a 1).trans (congrArg _ ((a 2).trans (congrArg _ (a 3))))))
    rw [e5, e0, e1, e2, e3, e4]
    rfl
  unfold Slt.cells
  rw [hcs]
set_option maxRecDepth 100000 in
theorem Cel.table {cs : List Value} (h : Cel enc Tryd.prog W 42 cs) : ∃ (s0 s1 : Slt) (a b c : Int), cs = s0.cells.toList ++ (s1.cells.toList ++ [Value.int .i64 a, .int .i64 b, .int .u64 c]) ∧ s0.Ok ∧ s1.Ok ∧ (-9223372036854775808 ≤ a ∧ a ≤ 9223372036854775807) ∧ (-9223372036854775808 ≤ b ∧ b ≤ 9223372036854775807) ∧ (0 ≤ c ∧ c ≤ 18446744073709551615) := by
  obtain ⟨hl, hf⟩ := h.struct_ Tryd.underlying42
  have hl : cs.length = 75 := by rw [hl]; kernel_rfl
  have f0 : Cel enc Tryd.prog W 40 ((cs.drop 0).take (Tryd.prog.cellsOf 40)) := hf 0 _ rfl
  have f1 : Cel enc Tryd.prog W 3 ((cs.drop 72).take (Tryd.prog.cellsOf 3)) := hf 1 _ rfl
  have f2 : Cel enc Tryd.prog W 3 ((cs.drop 73).take (Tryd.prog.cellsOf 3)) := hf 2 _ rfl
  have f3 : Cel enc Tryd.prog W 35 ((cs.drop 74).take (Tryd.prog.cellsOf 35)) := hf 3 _ rfl
  rw [show Tryd.prog.cellsOf 40 = 72 by kernel_rfl] at f0
  rw [show Tryd.prog.cellsOf 3 = 1 by kernel_rfl] at f1 f2
  rw [show Tryd.prog.cellsOf 35 = 1 by kernel_rfl] at f3
  obtain ⟨_, ha⟩ := f0.array_ Tryd.underlying40
  have g0 := ha 0 (by decide)
  have g1 := ha 1 (by decide)
  rw [show Tryd.prog.cellsOf 39 = 36 by kernel_rfl] at g0 g1
  obtain ⟨s0, e0, o0⟩ := Cel.slot g0
  obtain ⟨s1, e1, o1⟩ := Cel.slot g1
  obtain ⟨a, e2, w2⟩ := f1.int Tryd.underlying3
  obtain ⟨b, e3, w3⟩ := f2.int Tryd.underlying3
  obtain ⟨c, e4, w4⟩ := f3.int Tryd.underlying35
  have w4' : 0 ≤ c ∧ c ≤ 18446744073709551615 := by
    simp [Lit.wf, IntKind.min, IntKind.max, IntKind.signed, IntKind.bits] at w4
    exact w4
  refine ⟨s0, s1, a, b, c, ?_, o0, o1, wf_i64 w2, wf_i64 w3, w4'⟩
  have cut : ∀ k n, cs.drop k = (cs.drop k).take n ++ cs.drop (k + n) := fun k n => by
    have h := (List.take_append_drop n (cs.drop k)).symm
    rwa [List.drop_drop] at h
  have c0 := cut 0 36
  have c1 := cut 36 36
  have c2 := cut 72 1
  have c3 := cut 73 1
  have c4 := cut 74 1
  have c5 : cs.drop 75 = [] := List.drop_eq_nil_of_le (by omega)
  have x0 : (cs.drop 0).take 36 = s0.cells.toList := by
    rw [← e0, Nat.zero_mul, List.drop_zero, List.drop_zero, List.take_take]
    rfl
  have x1 : (cs.drop 36).take 36 = s1.cells.toList := by
    rw [← e1, Nat.one_mul, List.drop_zero, List.drop_take, List.take_take]
    rfl
  rw [show cs = cs.drop 0 from rfl, c0, x0, c1, x1, c2, e2, c3, e3, c4, e4, c5]
  rfl
set_option maxRecDepth 100000 in
theorem Cel.reply {cs : List Value} (h : Cel enc Tryd.prog W 44 cs) : ∃ r : Rp, cs = r.cells.toList ∧ r.Ok := by
  obtain ⟨hl, hf⟩ := h.struct_ Tryd.underlying44
  have hl : cs.length = 80 := by rw [hl]; kernel_rfl
  have f0 : Cel enc Tryd.prog W 27 ((cs.drop 0).take (Tryd.prog.cellsOf 27)) := hf 0 _ rfl
  have f1 : Cel enc Tryd.prog W 3 ((cs.drop 1).take (Tryd.prog.cellsOf 3)) := hf 1 _ rfl
  have f2 : Cel enc Tryd.prog W 3 ((cs.drop 2).take (Tryd.prog.cellsOf 3)) := hf 2 _ rfl
  have f3 : Cel enc Tryd.prog W 3 ((cs.drop 3).take (Tryd.prog.cellsOf 3)) := hf 3 _ rfl
  have f4 : Cel enc Tryd.prog W 27 ((cs.drop 4).take (Tryd.prog.cellsOf 27)) := hf 4 _ rfl
  have f5 : Cel enc Tryd.prog W 42 ((cs.drop 5).take (Tryd.prog.cellsOf 42)) := hf 5 _ rfl
  rw [show Tryd.prog.cellsOf 3 = 1 by kernel_rfl] at f1 f2 f3
  rw [show Tryd.prog.cellsOf 27 = 1 by kernel_rfl] at f0 f4
  rw [show Tryd.prog.cellsOf 42 = 75 by kernel_rfl] at f5
  obtain ⟨n0, e0, w0⟩ := f0.int Tryd.underlying27
  obtain ⟨n1, e1, w1⟩ := f1.int Tryd.underlying3
  obtain ⟨n2, e2, w2⟩ := f2.int Tryd.underlying3
  obtain ⟨n3, e3, w3⟩ := f3.int Tryd.underlying3
  obtain ⟨n4, e4, w4⟩ := f4.int Tryd.underlying27
  obtain ⟨s0, s1, a, b, c, e5, o0, o1, wa, wb, wc⟩ := Cel.table f5
  obtain ⟨a0, b0⟩ := wf_i64 w0
  obtain ⟨a1, b1⟩ := wf_i64 w1
  obtain ⟨a2, b2⟩ := wf_i64 w2
  obtain ⟨a3, b3⟩ := wf_i64 w3
  obtain ⟨a4, b4⟩ := wf_i64 w4
  refine ⟨⟨n0, n1, n2, n3, n4, s0, s1, a, b, c⟩, ?_, ⟨a0, b0, a1, b1, a2, b2, a3, b3, a4, b4, o0, o1, wa.1, wa.2, wb.1, wb.2, wc.1, wc.2⟩⟩
  have cut : ∀ k n, cs.drop k = (cs.drop k).take n ++ cs.drop (k + n) := fun k n => by
    have h := (List.take_append_drop n (cs.drop k)).symm
    rwa [List.drop_drop] at h
  have c5 : (cs.drop 5).take 75 = cs.drop 5 := List.take_of_length_le (by rw [List.length_drop]; omega)
  rw [c5] at e5
  rw [show cs = cs.drop 0 from rfl, cut 0 1, e0, cut 1 1, e1, cut 2 1, e2, cut 3 1, e3, cut 4 1, e4, e5]
  rfl
theorem Arg.reply {v : Value} (h : Arg enc Tryd.prog W 44 v) : ∃ r : Rp, v = .agg r.cells ∧ r.Ok := by
  obtain ⟨cs, rfl, hl, _⟩ := h.struct_ Tryd.underlying44
  have h2 : Cel enc Tryd.prog W 44 cs := by simpa [Value.cells] using h.reads
  obtain ⟨r, rfl, ok⟩ := Cel.reply h2
  exact ⟨r, rfl, ok⟩
end
end Go.Proofs.YtjcekmmieihllaaDoor
