/- order: the laws' arguments. order: in whichever order the spans are told: in plain Lean. -/
import Derived.Test.YtnjnooeldkideaaDoorMOrAo
import Derived.Test.YtnjnooeldkideaaDoorArgs
import Derived.OwnWalk
import Derived.Test.YtnjnooeldkideaaDoorMOrCk
namespace Go.Proofs.YtnjnooeldkideaaDoor
section
set_option linter.unusedVariables false
set_option linter.unusedSimpArgs false
set_option linter.unnecessarySimpa false
open Go.RowKit Go.Lib Go.Shelf Go.Deep
instance : Inhabited En := ⟨⟨0, 0, ⟨0, 0, 0, 0, ⟨#[]⟩⟩, ⟨0, 0, 0, 0, 0, zTb⟩, 0, 0, 0, zS⟩⟩
instance : Inhabited Sp := ⟨⟨0, 0, 0, ⟨0, 0, 0, 0, ⟨#[]⟩⟩, ⟨0, 0, 0, 0, 0, zTb⟩⟩⟩
structure En.Pre (e : En) : Prop where
 fit : e.Fit
 ok : e.call.name.size ≤ 1000000000 → e.Ok
structure Sp.Pre (x : Sp) : Prop where
 fit : x.rep.t.Ok
 ok : x.call.name.size ≤ 1000000000 → x.Ok
section
variable {H : Type} {enc : TypeId × Value → H} {W : World}
theorem cel_hash {cs : List Value} (h : Cel enc Tryd.prog W 27 cs) : ∃ xs : List UInt8, xs.length = 32 ∧ cs = xs.map bval := by
 obtain ⟨hl, hf⟩ := h.array_ Tryd.underlying27
 have hl : cs.length = 32 := by rw [hl]; kernel_rfl
 have c8 : Tryd.prog.cellsOf 5 = 1 := by kernel_rfl
 rw [c8] at hf
 have key : ∀ i, i < 32 → ∃ b : UInt8, cs[i]? = some (bval b) := by
  intro i hi
  have h1 : Cel enc Tryd.prog W 5 ((cs.drop (i * 1)).take 1) := hf i hi
  rw [Nat.mul_one] at h1
  obtain ⟨b, hb⟩ := h1.byte Tryd.underlying5
  have h3 := congrArg (fun l => l[0]?) hb
  exact ⟨b, by simpa [List.getElem?_take, List.getElem?_drop] using h3⟩
 obtain ⟨f, hf'⟩ := choose_lt key
 refine ⟨(List.range 32).map f, by simp, ?_⟩
 apply List.ext_getElem?
 intro i
 by_cases hi : i < 32
 ·rw [hf' i hi, List.getElem?_map, List.getElem?_map, List.getElem?_range hi]
  rfl
 ·rw [List.getElem?_eq_none (by omega), List.getElem?_eq_none (by simp; omega)]
theorem Cel.slot {cs : List Value} (h2 : Cel enc Tryd.prog W 29 cs) : ∃ s : Slt, cs = s.cells.toList ∧ s.Ok := by
 obtain ⟨hl, hf⟩ := h2.struct_ Tryd.underlying29
 have hl : cs.length = 36 := by rw [hl]; kernel_rfl
 have f0 : Cel enc Tryd.prog W 3 ((cs.drop 0).take (Tryd.prog.cellsOf 3)) := hf 0 _ rfl
 have f1 : Cel enc Tryd.prog W 3 ((cs.drop 1).take (Tryd.prog.cellsOf 3)) := hf 1 _ rfl
 have f2 : Cel enc Tryd.prog W 25 ((cs.drop 2).take (Tryd.prog.cellsOf 25)) := hf 2 _ rfl
 have f3 : Cel enc Tryd.prog W 3 ((cs.drop 3).take (Tryd.prog.cellsOf 3)) := hf 3 _ rfl
 have f4 : Cel enc Tryd.prog W 27 ((cs.drop 4).take (Tryd.prog.cellsOf 27)) := hf 4 _ rfl
 rw [show Tryd.prog.cellsOf 3 = 1 by kernel_rfl] at f0 f1 f3
 rw [show Tryd.prog.cellsOf 25 = 1 by kernel_rfl] at f2
 rw [show Tryd.prog.cellsOf 27 = 32 by kernel_rfl] at f4
 obtain ⟨n0, e0, w0⟩ := f0.int Tryd.underlying3
 obtain ⟨n1, e1, w1⟩ := f1.int Tryd.underlying3
 obtain ⟨n2, e2, w2⟩ := f2.int Tryd.underlying25
 obtain ⟨n3, e3, w3⟩ := f3.int Tryd.underlying3
 obtain ⟨ds, hd, e4⟩ := cel_hash f4
 obtain ⟨a0, b0⟩ := wf_i64 w0
 obtain ⟨a1, b1⟩ := wf_i64 w1
 obtain ⟨a3, b3⟩ := wf_i64 w3
 have w2' : 0 ≤ n2 ∧ n2 ≤ 18446744073709551615 := by
  simp [Lit.wf, IntKind.min, IntKind.max, IntKind.signed, IntKind.bits] at w2
  exact w2
 refine ⟨⟨n0, n1, n2, n3, ds⟩, ?_, ⟨hd, a0, b0, a1, b1, w2'.1, w2'.2, a3, b3⟩⟩
 have hcs : cs = [.int .i64 n0, .int .i64 n1, .int .u64 n2, .int .i64 n3] ++ ds.map bval := by
  have e5 : cs = (cs.drop 0).take 1 ++ ((cs.drop 1).take 1 ++ ((cs.drop 2).take 1 ++ ((cs.drop 3).take 1 ++ (cs.drop 4).take 32))) := by
   have a : ∀ k, cs.drop k = (cs.drop k).take 1 ++ cs.drop (k + 1) := fun k => by
    have h := (List.take_append_drop 1 (cs.drop k)).symm
    rwa [List.drop_drop] at h
   have b : (cs.drop 4).take 32 = cs.drop 4 := List.take_of_length_le (by rw [List.length_drop]; omega)
   rw [b]
   exact (a 0).trans (congrArg _ ((a 1).trans (congrArg _ ((a 2).trans (congrArg _ (a 3))))))
  rw [e5, e0, e1, e2, e3, e4]
  rfl
 unfold Slt.cells
 rw [hcs]
set_option maxRecDepth 100000 in
theorem Cel.table {cs : List Value} (h : Cel enc Tryd.prog W 32 cs) : ∃ t : Tb, cs = t.cells.toList ∧ t.Ok := by
 obtain ⟨hl, hf⟩ := h.struct_ Tryd.underlying32
 have hl : cs.length = 75 := by rw [hl]; kernel_rfl
 have f0 : Cel enc Tryd.prog W 30 ((cs.drop 0).take (Tryd.prog.cellsOf 30)) := hf 0 _ rfl
 have f1 : Cel enc Tryd.prog W 3 ((cs.drop 72).take (Tryd.prog.cellsOf 3)) := hf 1 _ rfl
 have f2 : Cel enc Tryd.prog W 3 ((cs.drop 73).take (Tryd.prog.cellsOf 3)) := hf 2 _ rfl
 have f3 : Cel enc Tryd.prog W 25 ((cs.drop 74).take (Tryd.prog.cellsOf 25)) := hf 3 _ rfl
 rw [show Tryd.prog.cellsOf 30 = 72 by kernel_rfl] at f0
 rw [show Tryd.prog.cellsOf 3 = 1 by kernel_rfl] at f1 f2
 rw [show Tryd.prog.cellsOf 25 = 1 by kernel_rfl] at f3
 obtain ⟨_, ha⟩ := f0.array_ Tryd.underlying30
 have g0 := ha 0 (by decide)
 have g1 := ha 1 (by decide)
 rw [show Tryd.prog.cellsOf 29 = 36 by kernel_rfl] at g0 g1
 obtain ⟨s0, e0, o0⟩ := Cel.slot g0
 obtain ⟨s1, e1, o1⟩ := Cel.slot g1
 obtain ⟨a, e2, w2⟩ := f1.int Tryd.underlying3
 obtain ⟨b, e3, w3⟩ := f2.int Tryd.underlying3
 obtain ⟨c, e4, w4⟩ := f3.int Tryd.underlying25
 have w4' : 0 ≤ c ∧ c ≤ 18446744073709551615 := by
  simp [Lit.wf, IntKind.min, IntKind.max, IntKind.signed, IntKind.bits] at w4
  exact w4
 refine ⟨⟨s0, s1, a, b, c⟩, ?_, o0, o1, (wf_i64 w2).1, (wf_i64 w2).2, (wf_i64 w3).1, (wf_i64 w3).2, w4'.1, w4'.2⟩
 have cut : ∀ k n, cs.drop k = (cs.drop k).take n ++ cs.drop (k + n) := fun k n => by
  have h := (List.take_append_drop n (cs.drop k)).symm
  rwa [List.drop_drop] at h
 have c0 := cut 0 36
 have c1 := cut 36 36
 have c2 := cut 72 1
 have c3 := cut 73 1
 have c4 := cut 74 1
 have c5 : cs.drop 75 = [] := List.drop_eq_nil_of_le (by omega)
 have x0 : (cs.drop 0).take 36 = s0.cells.toList := by
  rw [← e0, Nat.zero_mul, List.drop_zero, List.drop_zero, List.take_take]
  rfl
 have x1 : (cs.drop 36).take 36 = s1.cells.toList := by
  rw [← e1, Nat.one_mul, List.drop_zero, List.drop_take, List.take_take]
  rfl
 rw [show cs = cs.drop 0 from rfl, c0, x0, c1, x1, c2, e2, c3, e3, c4, e4, c5]
 rfl
set_option maxRecDepth 100000 in
theorem Cel.reply {cs : List Value} (h : Cel enc Tryd.prog W 36 cs) : ∃ r : Ry, cs = r.cells.toList ∧ r.Ok := by
 obtain ⟨hl, hf⟩ := h.struct_ Tryd.underlying36
 have hl : cs.length = 80 := by rw [hl]; kernel_rfl
 have f0 : Cel enc Tryd.prog W 34 ((cs.drop 0).take (Tryd.prog.cellsOf 34)) := hf 0 _ rfl
 have f1 : Cel enc Tryd.prog W 3 ((cs.drop 1).take (Tryd.prog.cellsOf 3)) := hf 1 _ rfl
 have f2 : Cel enc Tryd.prog W 3 ((cs.drop 2).take (Tryd.prog.cellsOf 3)) := hf 2 _ rfl
 have f3 : Cel enc Tryd.prog W 3 ((cs.drop 3).take (Tryd.prog.cellsOf 3)) := hf 3 _ rfl
 have f4 : Cel enc Tryd.prog W 34 ((cs.drop 4).take (Tryd.prog.cellsOf 34)) := hf 4 _ rfl
 have f5 : Cel enc Tryd.prog W 32 ((cs.drop 5).take (Tryd.prog.cellsOf 32)) := hf 5 _ rfl
 rw [show Tryd.prog.cellsOf 3 = 1 by kernel_rfl] at f1 f2 f3
 rw [show Tryd.prog.cellsOf 34 = 1 by kernel_rfl] at f0 f4
 rw [show Tryd.prog.cellsOf 32 = 75 by kernel_rfl] at f5
 obtain ⟨n0, e0, w0⟩ := f0.int Tryd.underlying34
 obtain ⟨n1, e1, w1⟩ := f1.int Tryd.underlying3
 obtain ⟨n2, e2, w2⟩ := f2.int Tryd.underlying3
 obtain ⟨n3, e3, w3⟩ := f3.int Tryd.underlying3
 obtain ⟨n4, e4, w4⟩ := f4.int Tryd.underlying34
 obtain ⟨t, e5, ot⟩ := Cel.table f5
 obtain ⟨a0, b0⟩ := wf_i64 w0
 obtain ⟨a1, b1⟩ := wf_i64 w1
 obtain ⟨a2, b2⟩ := wf_i64 w2
 obtain ⟨a3, b3⟩ := wf_i64 w3
 obtain ⟨a4, b4⟩ := wf_i64 w4
 refine ⟨⟨n0, n1, n2, n3, n4, t⟩, ?_, ⟨a0, b0, a1, b1, a2, b2, a3, b3, a4, b4, ot⟩⟩
 have cut : ∀ k n, cs.drop k = (cs.drop k).take n ++ cs.drop (k + n) := fun k n => by
  have h := (List.take_append_drop n (cs.drop k)).symm
  rwa [List.drop_drop] at h
 have c5 : (cs.drop 5).take 75 = cs.drop 5 := List.take_of_length_le (by rw [List.length_drop]; omega)
 rw [c5] at e5
 rw [show cs = cs.drop 0 from rfl, cut 0 1, e0, cut 1 1, e1, cut 2 1, e2, cut 3 1, e3, cut 4 1, e4, e5]
 rfl
theorem Cel.call {cs : List Value} (h2 : Cel enc Tryd.prog W 24 cs) : ∃ c : Cl, cs = c.cells.toList ∧ (c.name.size ≤ 1000000000 → c.Ok) ∧ c.name.size ≤ 9223372036854775807 := by
 obtain ⟨hl, hf⟩ := h2.struct_ Tryd.underlying24
 have hl : cs.length = 5 := by rw [hl]; kernel_rfl
 have f0 : Cel enc Tryd.prog W 3 ((cs.drop 0).take (Tryd.prog.cellsOf 3)) := hf 0 _ rfl
 have f1 : Cel enc Tryd.prog W 3 ((cs.drop 1).take (Tryd.prog.cellsOf 3)) := hf 1 _ rfl
 have f2 : Cel enc Tryd.prog W 3 ((cs.drop 2).take (Tryd.prog.cellsOf 3)) := hf 2 _ rfl
 have f3 : Cel enc Tryd.prog W 3 ((cs.drop 3).take (Tryd.prog.cellsOf 3)) := hf 3 _ rfl
 have f4 : Cel enc Tryd.prog W 9 ((cs.drop 4).take (Tryd.prog.cellsOf 9)) := hf 4 _ rfl
 rw [show Tryd.prog.cellsOf 3 = 1 by kernel_rfl] at f0 f1 f2 f3
 rw [show Tryd.prog.cellsOf 9 = 1 by kernel_rfl] at f4
 obtain ⟨n0, e0, w0⟩ := f0.int Tryd.underlying3
 obtain ⟨n1, e1, w1⟩ := f1.int Tryd.underlying3
 obtain ⟨n2, e2, w2⟩ := f2.int Tryd.underlying3
 obtain ⟨n3, e3, w3⟩ := f3.int Tryd.underlying3
 obtain ⟨s, e4, w4⟩ := f4.string Tryd.underlying9
 obtain ⟨a0, b0⟩ := wf_i64 w0
 obtain ⟨a1, b1⟩ := wf_i64 w1
 obtain ⟨a2, b2⟩ := wf_i64 w2
 obtain ⟨a3, b3⟩ := wf_i64 w3
 refine ⟨⟨n0, n1, n2, n3, s⟩, ?_, fun hw => ⟨a0, b0, a1, b1, a2, b2, a3, b3, hw⟩, by unfold maxLen at w4; show s.size ≤ _; omega⟩
 have e5 : cs = (cs.drop 0).take 1 ++ ((cs.drop 1).take 1 ++ ((cs.drop 2).take 1 ++ ((cs.drop 3).take 1 ++ (cs.drop 4).take 1))) := by
  have a : ∀ k, cs.drop k = (cs.drop k).take 1 ++ cs.drop (k + 1) := fun k => by
   have h := (List.take_append_drop 1 (cs.drop k)).symm
   rwa [List.drop_drop] at h
  have b : (cs.drop 4).take 1 = cs.drop 4 := List.take_of_length_le (by rw [List.length_drop]; omega)
  rw [b]
  exact (a 0).trans (congrArg _ ((a 1).trans (congrArg _ ((a 2).trans (congrArg _ (a 3))))))
 rw [e5, e0, e1, e2, e3, e4]
 rfl
set_option maxRecDepth 100000 in
theorem Cel.entry {cs : List Value} (h : Cel enc Tryd.prog W 38 cs) : ∃ e : En, cs = e.cells.toList ∧ e.Pre := by
 obtain ⟨hl, hf⟩ := h.struct_ Tryd.underlying38
 have hl : cs.length = 126 := by rw [hl]; kernel_rfl
 have f0 : Cel enc Tryd.prog W 3 ((cs.drop 0).take (Tryd.prog.cellsOf 3)) := hf 0 _ rfl
 rw [show Tryd.prog.cellsOf 3 = 1 by kernel_rfl] at f0
 have f1 : Cel enc Tryd.prog W 3 ((cs.drop 1).take (Tryd.prog.cellsOf 3)) := hf 1 _ rfl
 rw [show Tryd.prog.cellsOf 3 = 1 by kernel_rfl] at f1
 have f2 : Cel enc Tryd.prog W 24 ((cs.drop 2).take (Tryd.prog.cellsOf 24)) := hf 2 _ rfl
 rw [show Tryd.prog.cellsOf 24 = 5 by kernel_rfl] at f2
 have f3 : Cel enc Tryd.prog W 36 ((cs.drop 7).take (Tryd.prog.cellsOf 36)) := hf 3 _ rfl
 rw [show Tryd.prog.cellsOf 36 = 80 by kernel_rfl] at f3
 have f4 : Cel enc Tryd.prog W 34 ((cs.drop 87).take (Tryd.prog.cellsOf 34)) := hf 4 _ rfl
 rw [show Tryd.prog.cellsOf 34 = 1 by kernel_rfl] at f4
 have f5 : Cel enc Tryd.prog W 3 ((cs.drop 88).take (Tryd.prog.cellsOf 3)) := hf 5 _ rfl
 rw [show Tryd.prog.cellsOf 3 = 1 by kernel_rfl] at f5
 have f6 : Cel enc Tryd.prog W 34 ((cs.drop 89).take (Tryd.prog.cellsOf 34)) := hf 6 _ rfl
 rw [show Tryd.prog.cellsOf 34 = 1 by kernel_rfl] at f6
 have f7 : Cel enc Tryd.prog W 29 ((cs.drop 90).take (Tryd.prog.cellsOf 29)) := hf 7 _ rfl
 rw [show Tryd.prog.cellsOf 29 = 36 by kernel_rfl] at f7
 obtain ⟨n0, e0, w0⟩ := f0.int Tryd.underlying3
 obtain ⟨a0, b0⟩ := wf_i64 w0
 obtain ⟨n1, e1, w1⟩ := f1.int Tryd.underlying3
 obtain ⟨a1, b1⟩ := wf_i64 w1
 obtain ⟨n4, e4, w4⟩ := f4.int Tryd.underlying34
 obtain ⟨a4, b4⟩ := wf_i64 w4
 obtain ⟨n5, e5, w5⟩ := f5.int Tryd.underlying3
 obtain ⟨a5, b5⟩ := wf_i64 w5
 obtain ⟨n6, e6, w6⟩ := f6.int Tryd.underlying34
 obtain ⟨a6, b6⟩ := wf_i64 w6
 obtain ⟨c, e2, cok, _⟩ := Cel.call f2
 obtain ⟨r, e3, rok⟩ := Cel.reply f3
 obtain ⟨sl, e7, sok⟩ := Cel.slot f7
 refine ⟨⟨n0, n1, c, r, n4, n5, n6, sl⟩, ?_, ⟨⟨rok.t, sok⟩, fun hn => ⟨a0, b0, a1, b1, cok hn, rok, a4, b4, a5, b5, a6, b6, sok⟩⟩⟩
 have cut : ∀ k n, cs.drop k = (cs.drop k).take n ++ cs.drop (k + n) := fun k n => by
  have h := (List.take_append_drop n (cs.drop k)).symm
  rwa [List.drop_drop] at h
 have c5 : (cs.drop 90).take 36 = cs.drop 90 := List.take_of_length_le (by rw [List.length_drop]; omega)
 rw [c5] at e7
 rw [show cs = cs.drop 0 from rfl, cut 0 1, e0, cut 1 1, e1, cut 2 5, e2, cut 7 80, e3, cut 87 1, e4, cut 88 1, e5, cut 89 1, e6, e7]
 simp [En.cells]
set_option maxRecDepth 100000 in
theorem Cel.span {cs : List Value} (h : Cel enc Tryd.prog W 40 cs) : ∃ x : Sp, cs = x.cells.toList ∧ x.Pre := by
 obtain ⟨hl, hf⟩ := h.struct_ Tryd.underlying40
 have hl : cs.length = 88 := by rw [hl]; kernel_rfl
 have f0 : Cel enc Tryd.prog W 3 ((cs.drop 0).take (Tryd.prog.cellsOf 3)) := hf 0 _ rfl
 rw [show Tryd.prog.cellsOf 3 = 1 by kernel_rfl] at f0
 have f1 : Cel enc Tryd.prog W 3 ((cs.drop 1).take (Tryd.prog.cellsOf 3)) := hf 1 _ rfl
 rw [show Tryd.prog.cellsOf 3 = 1 by kernel_rfl] at f1
 have f2 : Cel enc Tryd.prog W 3 ((cs.drop 2).take (Tryd.prog.cellsOf 3)) := hf 2 _ rfl
 rw [show Tryd.prog.cellsOf 3 = 1 by kernel_rfl] at f2
 have f3 : Cel enc Tryd.prog W 24 ((cs.drop 3).take (Tryd.prog.cellsOf 24)) := hf 3 _ rfl
 rw [show Tryd.prog.cellsOf 24 = 5 by kernel_rfl] at f3
 have f4 : Cel enc Tryd.prog W 36 ((cs.drop 8).take (Tryd.prog.cellsOf 36)) := hf 4 _ rfl
 rw [show Tryd.prog.cellsOf 36 = 80 by kernel_rfl] at f4
 obtain ⟨n0, e0, w0⟩ := f0.int Tryd.underlying3
 obtain ⟨a0, b0⟩ := wf_i64 w0
 obtain ⟨n1, e1, w1⟩ := f1.int Tryd.underlying3
 obtain ⟨a1, b1⟩ := wf_i64 w1
 obtain ⟨n2, e2, w2⟩ := f2.int Tryd.underlying3
 obtain ⟨a2, b2⟩ := wf_i64 w2
 obtain ⟨c, e3, cok, _⟩ := Cel.call f3
 obtain ⟨r, e4, rok⟩ := Cel.reply f4
 refine ⟨⟨n0, n1, n2, c, r⟩, ?_, ⟨rok.t, fun hn => ⟨a0, b0, a1, b1, a2, b2, cok hn, rok⟩⟩⟩
 have cut : ∀ k n, cs.drop k = (cs.drop k).take n ++ cs.drop (k + n) := fun k n => by
  have h := (List.take_append_drop n (cs.drop k)).symm
  rwa [List.drop_drop] at h
 have c5 : (cs.drop 8).take 80 = cs.drop 8 := List.take_of_length_le (by rw [List.length_drop]; omega)
 rw [c5] at e4
 rw [show cs = cs.drop 0 from rfl, cut 0 1, e0, cut 1 1, e1, cut 2 1, e2, cut 3 5, e3, e4]
 simp [Sp.cells]
theorem Slc.rd {α : Type} {k : Nat} {Q : List Value → α → Prop} {A : Option Addr} {n c : Nat} {xs : List α} (f : α → List Value) (h : Slc (fun b => W.heap[b]?) k Q A n c xs) (hq : ∀ cs x, Q cs x → cs = f x) : Rd W (fun b => W.heap[b]?) [] k A (xs.map f) := by
 refine ⟨fun r hr => ?_, fun v X hv hX i r hi => ?_⟩
 ·obtain ⟨x, hx, rfl⟩ := List.mem_map.1 hr
  obtain ⟨i, hi⟩ := List.mem_iff_getElem?.1 hx
  obtain ⟨b, off, cs, h1, h2, h3, h4⟩ := h.at_ i x hi
  rw [← hq _ _ h4]
  exact h2
 ·rw [List.getElem?_map] at hi
  obtain ⟨x, hx, rfl⟩ := Option.map_eq_some_iff.1 hi
  obtain ⟨b, off, cs, h1, h2, h3, h4⟩ := h.at_ i x hx
  refine ⟨b, off, h1, fun j u hj => ?_⟩
  rw [← hq _ _ h4] at hj
  have hjl : j < k := by have := (List.getElem?_eq_some_iff.1 hj).1; omega
  exact hv.ro (by rw [h3 j hjl]; exact hj)
theorem Slc.all {α : Type} {k : Nat} {Q : List Value → α → Prop} {R : α → Prop} {A : Option Addr} {n c : Nat} {xs : List α} (h : Slc (fun b => W.heap[b]?) k Q A n c xs) (hq : ∀ cs x, Q cs x → R x) : ∀ x ∈ xs, R x := fun x hx => by
 obtain ⟨i, hi⟩ := List.mem_iff_getElem?.1 hx
 obtain ⟨b, off, cs, h1, h2, h3, h4⟩ := h.at_ i x hi
 exact hq _ _ h4
theorem Cel.names {cs : List Value} (h : Cel enc Tryd.prog W 43 cs) : ∃ (A : Option Addr) (c : Nat) (l : List ByteArray), cs = [.slice A l.length c] ∧ l.length ≤ maxLen ∧ Rd W (fun b => W.heap[b]?) [] 1 A (nmRows l) := by
 obtain ⟨A, n, c, l, rfl, hs⟩ := h.slice (α := ByteArray) (Q := fun cs x => cs = [.string x]) (size := 1) Tryd.underlying43 (by kernel_rfl) (by decide) (fun cs h => by
  obtain ⟨x, hx, _⟩ := Cel.string (t := 9) Tryd.underlying9 h
  exact ⟨x, hx⟩)
 have hn := hs.len
 subst hn
 exact ⟨A, c, l, rfl, Nat.le_trans hs.cap hs.cap', hs.rd (fun x => [.string x]) (fun cs x hq => hq)⟩
theorem Cel.entries {cs : List Value} (h : Cel enc Tryd.prog W 41 cs) : ∃ (A : Option Addr) (c : Nat) (l : List En), cs = [.slice A l.length c] ∧ l.length ≤ maxLen ∧ Rd W (fun b => W.heap[b]?) [] 126 A (enRows l) ∧ ∀ e ∈ l, e.Pre := by
 obtain ⟨A, n, c, l, rfl, hs⟩ := h.slice (α := En) (Q := fun cs x => cs = x.cells.toList ∧ x.Pre) (size := 126) Tryd.underlying41 (by kernel_rfl) (by decide) (fun cs h => Cel.entry h)
 have hn := hs.len
 subst hn
 exact ⟨A, c, l, rfl, Nat.le_trans hs.cap hs.cap', hs.rd (fun x : En => x.cells.toList) (fun cs x hq => hq.1), hs.all (fun cs x hq => hq.2)⟩
theorem Cel.spans {cs : List Value} (h : Cel enc Tryd.prog W 42 cs) : ∃ (A : Option Addr) (c : Nat) (l : List Sp), cs = [.slice A l.length c] ∧ (l.length ≤ c ∧ c ≤ maxLen) ∧ Rd W (fun b => W.heap[b]?) [] 88 A (spRows l) ∧ ∀ e ∈ l, e.Pre := by
 obtain ⟨A, n, c, l, rfl, hs⟩ := h.slice (α := Sp) (Q := fun cs x => cs = x.cells.toList ∧ x.Pre) (size := 88) Tryd.underlying42 (by kernel_rfl) (by decide) (fun cs h => Cel.span h)
 have hn := hs.len
 subst hn
 exact ⟨A, c, l, rfl, ⟨hs.cap, hs.cap'⟩, hs.rd (fun x : Sp => x.cells.toList) (fun cs x hq => hq.1), hs.all (fun cs x hq => hq.2)⟩
structure Hy (W : World) where
 t : Tb
 nA : Option Addr
 nc : Nat
 nms : List ByteArray
 tries : Int
 lA : Option Addr
 lc : Nat
 es : List En
 pA : Option Addr
 pc : Nat
 ss : List Sp
 tok : t.Ok
 x0 : -9223372036854775808 ≤ tries
 x1 : tries ≤ 9223372036854775807
 nl : nms.length ≤ maxLen
 el : es.length ≤ maxLen
 sl : ss.length ≤ pc ∧ pc ≤ maxLen
 nrd : Rd W (fun b => W.heap[b]?) [] 1 nA (nmRows nms)
 erd : Rd W (fun b => W.heap[b]?) [] 126 lA (enRows es)
 srd : Rd W (fun b => W.heap[b]?) [] 88 pA (spRows ss)
 epre : ∀ e ∈ es, e.Pre
 spre : ∀ e ∈ ss, e.Pre
def Hy.cells (x : Hy W) : Array Value := hyCells x.t (.slice x.nA x.nms.length x.nc) x.tries (.slice x.lA x.es.length x.lc) (.slice x.pA x.ss.length x.pc)
set_option maxRecDepth 100000 in
theorem Cel.history {cs : List Value} (h : Cel enc Tryd.prog W 45 cs) : ∃ x : Hy W, cs = x.cells.toList := by
 obtain ⟨hl, hf⟩ := h.struct_ Tryd.underlying45
 have hl : cs.length = 79 := by rw [hl]; kernel_rfl
 have f0 : Cel enc Tryd.prog W 32 ((cs.drop 0).take (Tryd.prog.cellsOf 32)) := hf 0 _ rfl
 rw [show Tryd.prog.cellsOf 32 = 75 by kernel_rfl] at f0
 have f1 : Cel enc Tryd.prog W 43 ((cs.drop 75).take (Tryd.prog.cellsOf 43)) := hf 1 _ rfl
 rw [show Tryd.prog.cellsOf 43 = 1 by kernel_rfl] at f1
 have f2 : Cel enc Tryd.prog W 3 ((cs.drop 76).take (Tryd.prog.cellsOf 3)) := hf 2 _ rfl
 rw [show Tryd.prog.cellsOf 3 = 1 by kernel_rfl] at f2
 have f3 : Cel enc Tryd.prog W 41 ((cs.drop 77).take (Tryd.prog.cellsOf 41)) := hf 3 _ rfl
 rw [show Tryd.prog.cellsOf 41 = 1 by kernel_rfl] at f3
 have f4 : Cel enc Tryd.prog W 42 ((cs.drop 78).take (Tryd.prog.cellsOf 42)) := hf 4 _ rfl
 rw [show Tryd.prog.cellsOf 42 = 1 by kernel_rfl] at f4
 obtain ⟨t, e0, tok⟩ := Cel.table f0
 obtain ⟨nA, nc, nms, e1, nl, nrd⟩ := Cel.names f1
 obtain ⟨n2, e2, w2⟩ := f2.int Tryd.underlying3
 obtain ⟨a2, b2⟩ := wf_i64 w2
 obtain ⟨lA, lc, es, e3, el, erd, epre⟩ := Cel.entries f3
 obtain ⟨pA, pc, ss, e4, sl, srd, spre⟩ := Cel.spans f4
 refine ⟨⟨t, nA, nc, nms, n2, lA, lc, es, pA, pc, ss, tok, a2, b2, nl, el, sl, nrd, erd, srd, epre, spre⟩, ?_⟩
 have cut : ∀ k n, cs.drop k = (cs.drop k).take n ++ cs.drop (k + n) := fun k n => by
  have h := (List.take_append_drop n (cs.drop k)).symm
  rwa [List.drop_drop] at h
 have c5 : (cs.drop 78).take 1 = cs.drop 78 := List.take_of_length_le (by rw [List.length_drop]; omega)
 rw [c5] at e4
 rw [show cs = cs.drop 0 from rfl, cut 0 75, e0, cut 75 1, e1, cut 76 1, e2, cut 77 1, e3, e4]
 simp [Hy.cells, hyCells]
theorem Arg.history {v : Value} (a : Arg enc Tryd.prog W 45 v) : ∃ x : Hy W, v = .agg x.cells := by
 obtain ⟨cs, rfl, hl, _⟩ := a.struct_ Tryd.underlying45
 have h2 : Cel enc Tryd.prog W 45 cs := by simpa [Value.cells] using a.reads
 obtain ⟨x, rfl⟩ := Cel.history h2
 exact ⟨x, rfl⟩
structure Wr (W : World) where
 t : Tb
 nA : Option Addr
 nc : Nat
 nms : List ByteArray
 tries : Int
 tok : t.Ok
 x0 : -9223372036854775808 ≤ tries
 x1 : tries ≤ 9223372036854775807
 nl : nms.length ≤ maxLen
 nrd : Rd W (fun b => W.heap[b]?) [] 1 nA (nmRows nms)
def Wr.cells (x : Wr W) : Array Value := (x.t.cells.toList ++ [Value.slice x.nA x.nms.length x.nc, .int .i64 x.tries]).toArray
set_option maxRecDepth 100000 in
theorem Cel.worldO {cs : List Value} (h : Cel enc Tryd.prog W 49 cs) : ∃ x : Wr W, cs = x.cells.toList := by
 obtain ⟨hl, hf⟩ := h.struct_ Tryd.underlying49
 have hl : cs.length = 77 := by rw [hl]; kernel_rfl
 have f0 : Cel enc Tryd.prog W 32 ((cs.drop 0).take (Tryd.prog.cellsOf 32)) := hf 0 _ rfl
 rw [show Tryd.prog.cellsOf 32 = 75 by kernel_rfl] at f0
 have f1 : Cel enc Tryd.prog W 43 ((cs.drop 75).take (Tryd.prog.cellsOf 43)) := hf 1 _ rfl
 rw [show Tryd.prog.cellsOf 43 = 1 by kernel_rfl] at f1
 have f2 : Cel enc Tryd.prog W 3 ((cs.drop 76).take (Tryd.prog.cellsOf 3)) := hf 2 _ rfl
 rw [show Tryd.prog.cellsOf 3 = 1 by kernel_rfl] at f2
 obtain ⟨t, e0, tok⟩ := Cel.table f0
 obtain ⟨nA, nc, nms, e1, nl, nrd⟩ := Cel.names f1
 obtain ⟨n2, e2, w2⟩ := f2.int Tryd.underlying3
 obtain ⟨a2, b2⟩ := wf_i64 w2
 refine ⟨⟨t, nA, nc, nms, n2, tok, a2, b2, nl, nrd⟩, ?_⟩
 have cut : ∀ k n, cs.drop k = (cs.drop k).take n ++ cs.drop (k + n) := fun k n => by
  have h := (List.take_append_drop n (cs.drop k)).symm
  rwa [List.drop_drop] at h
 have c5 : (cs.drop 76).take 1 = cs.drop 76 := List.take_of_length_le (by rw [List.length_drop]; omega)
 rw [c5] at e2
 rw [show cs = cs.drop 0 from rfl, cut 0 75, e0, cut 75 1, e1, e2]
 simp [Wr.cells]
theorem Arg.worldO {v : Value} (a : Arg enc Tryd.prog W 49 v) : ∃ x : Wr W, v = .agg x.cells := by
 obtain ⟨cs, rfl, hl, _⟩ := a.struct_ Tryd.underlying49
 have h2 : Cel enc Tryd.prog W 49 cs := by simpa [Value.cells] using a.reads
 obtain ⟨x, rfl⟩ := Cel.worldO h2
 exact ⟨x, rfl⟩
end
end

section
set_option linter.unusedVariables false
set_option linter.unusedSimpArgs false
open Go.RowKit Go.Lib Go.Deep
theorem perm_erase {α : Type} : ∀ {l : List α} {k : Nat} {y : α}, l[k]? = some y → l.Perm (y :: l.eraseIdx k)
 | [], k, y, h => by simp at h
 | x :: l, 0, y, h => by
  simp at h
  subst h
  simp
 | x :: l, k + 1, y, h => by
  rw [List.eraseIdx_cons_succ]
  exact ((perm_erase (l := l) (k := k) (by simpa using h)).cons x).trans (List.Perm.swap _ _ _)
theorem mayL_all (y : Sp) : ∀ (l : List Sp) (k i : Nat), i ≤ k → k < i + l.length → mayL y k l i = (l.eraseIdx (k - i)).all (fun x => !aheadB x y)
 | [], k, i, h, h2 => by simp at h2; omega
 | x :: l, k, i, h, h2 => by
  unfold mayL
  by_cases hk : i = k
  ·subst hk
   have e : (i == i) = true := by simp
   rw [e, Bool.true_or, Bool.true_and, Nat.sub_self, List.eraseIdx_cons_zero]
   exact mayL_past y l i (i + 1) (by omega)
  ·have e : (i == k) = false := by simpa using hk
   rw [e, Bool.false_or, show k - i = (k - (i + 1)) + 1 by omega, List.eraseIdx_cons_succ, List.all_cons, mayL_all y l k (i + 1) (by omega) (by simp at h2; omega)]
where
 mayL_past (y : Sp) : ∀ (l : List Sp) (k i : Nat), k < i → mayL y k l i = l.all (fun x => !aheadB x y)
 | [], k, i, h => rfl
 | x :: l, k, i, h => by
  have e : (i == k) = false := by simp; omega
  unfold mayL
  rw [e, Bool.false_or, List.all_cons, mayL_past y l k (i + 1) (by omega)]
def Took (g : List Sp → Md → Bool) (ns : List ByteArray) (m : Md) (y : Sp) (l : List Sp) : Prop := (∀ x ∈ l, aheadB x y = false) ∧ ∃ m', placeM m ns y = some m' ∧ g l m' = true
theorem spTry_iff (g : List Sp → Md → Bool) (ns : List ByteArray) (ss : List Sp) (m : Md) : ((List.range ss.length).any (fun k => spTry g ns ss m k)) = true ↔ ∃ k y, ss[k]? = some y ∧ Took g ns m y (ss.eraseIdx k) := by
 rw [List.any_eq_true]
 constructor
 ·rintro ⟨k, hk, h⟩
  have hk := List.mem_range.1 hk
  obtain ⟨y, hy⟩ : ∃ y, ss[k]? = some y := ⟨_, List.getElem?_eq_getElem hk⟩
  unfold spTry mayB at h
  rw [hy] at h
  simp only [Bool.and_eq_true] at h
  obtain ⟨h1, h2⟩ := h
  rw [mayL_all y ss k 0 (by omega) (by omega), Nat.sub_zero, List.all_eq_true] at h1
  refine ⟨k, y, hy, fun x hx => by simpa using h1 x hx, ?_⟩
  cases hp : placeM m ns y with
  | none => rw [hp] at h2; cases h2
  | some m' => rw [hp] at h2; exact ⟨m', rfl, h2⟩
 ·rintro ⟨k, y, hy, h1, m', hp, h2⟩
  have hk := (List.getElem?_eq_some_iff.1 hy).1
  refine ⟨k, List.mem_range.2 hk, ?_⟩
  unfold spTry mayB
  rw [hy]
  simp only [Bool.and_eq_true]
  refine ⟨?_, by rw [hp]; exact h2⟩
  rw [mayL_all y ss k 0 (by omega) (by omega), Nat.sub_zero, List.all_eq_true]
  exact fun x hx => by rw [h1 x hx]; rfl
theorem anyUp_perm {ss ss' : List Sp} (h : ss.Perm ss') : anyUp ss = anyUp ss' := by
 unfold anyUp
 rw [Bool.eq_iff_iff, List.any_eq_true, List.any_eq_true]
 exact ⟨fun ⟨x, hx, hy⟩ => ⟨x, h.mem_iff.1 hx, hy⟩, fun ⟨x, hx, hy⟩ => ⟨x, h.mem_iff.2 hx, hy⟩⟩
theorem took_perm {g : List Sp → Md → Bool} (hg : ∀ l l' m, l.Perm l' → g l m = true → g l' m = true) {ns : List ByteArray} {m : Md} {ss ss' : List Sp} (h : ss.Perm ss') : (∃ k y, ss[k]? = some y ∧ Took g ns m y (ss.eraseIdx k)) → ∃ k y, ss'[k]? = some y ∧ Took g ns m y (ss'.eraseIdx k) := by
 rintro ⟨k, y, hy, h1, m', hp, h2⟩
 have hm : y ∈ ss' := h.mem_iff.1 (List.mem_of_getElem? hy)
 obtain ⟨k', hk'⟩ := List.mem_iff_getElem?.1 hm
 have hq : (ss.eraseIdx k).Perm (ss'.eraseIdx k') := List.Perm.cons_inv (((perm_erase hy).symm.trans h).trans (perm_erase hk'))
 exact ⟨k', y, hk', fun x hx => h1 x (hq.mem_iff.2 hx), m', hp, hg _ _ _ hq h2⟩
theorem found_perm (ns : List ByteArray) : ∀ (f : Nat) (es : List En) (m : Md) (ss ss' : List Sp), ss.Perm ss' → foundM ns f ss es m = true → foundM ns f ss' es m = true
 | 0, es, m, ss, ss', h, hf => hf
 | f + 1, es, m, ss, ss', h, hf => by
  unfold foundM at hf ⊢
  rw [Bool.or_eq_true, Bool.or_eq_true] at hf ⊢
  rcases hf with h1 | h1 | h1
  ·left
   unfold overB at h1 ⊢
   rw [← anyUp_perm h]
   exact h1
  ·right; left
   unfold enTry at h1 ⊢
   cases es with
   | nil => exact h1
   | cons e es =>
    cases hd : doM m ns e with
    | none => simp only [hd] at h1; cases h1
    | some m' =>
     simp only [hd] at h1 ⊢
     exact found_perm ns f es m' ss ss' h h1
  ·right; right
   rw [spTry_iff] at h1 ⊢
   exact took_perm (fun l l' m hl hg => found_perm ns f es m l l' hl hg) h h1
theorem find_perm (t : Tb) (nms : List ByteArray) (tries : Int) (es : List En) {ss ss' : List Sp} (h : ss.Perm ss') : findM t nms tries es ss = findM t nms tries es ss' := by
 unfold findM
 rw [h.length_eq, show foundM (filtN nms) (ss'.length + (endsOf es).length + 1) ss (endsOf es) (newM t tries) = foundM (filtN nms) (ss'.length + (endsOf es).length + 1) ss' (endsOf es) (newM t tries) from Bool.eq_iff_iff.2 ⟨found_perm _ _ _ _ _ _ h, found_perm _ _ _ _ _ _ h.symm⟩]
theorem ansA_some (es : List En) (l : List (Int × Int)) : ∀ (ss : List Sp) (k : Nat) (q q' : List (Int × Int)), ansA es l ss k q = some q' → (∀ s ∈ ss, fitS es l s = true ∧ lookI q s.serial = none) ∧ (ss.map (·.serial)).Nodup ∧ ∀ x, (lookI q' x).isSome = ((lookI q x).isSome || decide (x ∈ ss.map (·.serial)))
 | [], k, q, q', h => by
  unfold ansA at h
  injection h with h
  subst h
  simp
 | s :: ss, k, q, q', h => by
  unfold ansA at h
  by_cases h1 : (lookI q s.serial).isSome = true
  ·rw [if_pos h1] at h; cases h
  ·rw [if_neg h1] at h
   by_cases h2 : fitS es l s = true
   ·rw [if_pos h2] at h
    obtain ⟨i1, i2, i3⟩ := ansA_some es l ss (k + 1) _ q' h
    have hn : lookI q s.serial = none := by simpa using h1
    refine ⟨fun x hx => ?_, ?_, fun x => ?_⟩
    ·rcases List.mem_cons.1 hx with rfl | hx
     ·exact ⟨h2, hn⟩
     ·obtain ⟨j1, j2⟩ := i1 x hx
      rw [lookI_put] at j2
      split at j2
      ·cases j2
      ·exact ⟨j1, j2⟩
    ·rw [List.map_cons, List.nodup_cons]
     refine ⟨fun hm => ?_, i2⟩
     obtain ⟨x, hx, hxs⟩ := List.mem_map.1 hm
     have := (i1 x hx).2
     rw [lookI_put, if_pos hxs] at this
     cases this
    ·rw [i3 x, lookI_put, List.map_cons]
     by_cases hx : x = s.serial
     ·simp [hx]
     ·simp [hx]
   ·rw [if_neg h2] at h; cases h
theorem ansA_ex (es : List En) (l : List (Int × Int)) : ∀ (ss : List Sp) (k : Nat) (q : List (Int × Int)), (∀ s ∈ ss, fitS es l s = true ∧ lookI q s.serial = none) → (ss.map (·.serial)).Nodup → ∃ q', ansA es l ss k q = some q'
 | [], k, q, _, _ => ⟨q, rfl⟩
 | s :: ss, k, q, h, hd => by
  obtain ⟨h2, hn⟩ := h s (List.mem_cons_self ..)
  rw [List.map_cons, List.nodup_cons] at hd
  unfold ansA
  rw [if_neg (by rw [hn]; decide), if_pos h2]
  refine ansA_ex es l ss (k + 1) _ (fun x hx => ?_) hd.2
  obtain ⟨j1, j2⟩ := h x (List.mem_cons_of_mem _ hx)
  refine ⟨j1, ?_⟩
  rw [lookI_put, if_neg, j2]
  exact fun e => hd.1 (List.mem_map.2 ⟨x, hx, e⟩)
theorem ansB_iff (q : List (Int × Int)) : ∀ es : List En, ansB q es = true ↔ ∀ e ∈ es, e.kind = 1 → (lookI q e.serial).isSome = true
 | [] => by simp [ansB]
 | e :: es => by
  unfold ansB
  by_cases h : (lookI q e.serial).isSome = false ∧ e.kind = 1
  ·rw [if_pos h]
   constructor
   ·intro x; cases x
   ·intro x
    have := x e (List.mem_cons_self ..) h.2
    rw [h.1] at this
    cases this
  ·rw [if_neg h, ansB_iff q es]
   constructor
   ·intro x y hy hk
    rcases List.mem_cons.1 hy with rfl | hy
    ·cases hb : (lookI q y.serial).isSome with
     | true => rfl
     | false => exact absurd ⟨hb, hk⟩ h
    ·exact x y hy hk
   ·exact fun x y hy hk => x y (List.mem_cons_of_mem _ hy) hk
theorem answered_iff (es : List En) (ss : List Sp) (l : List (Int × Int)) : answeredM es ss l = true ↔ (∀ s ∈ ss, fitS es l s = true) ∧ (ss.map (·.serial)).Nodup ∧ ∀ e ∈ es, e.kind = 1 → e.serial ∈ ss.map (·.serial) := by
 unfold answeredM
 constructor
 ·intro h
  cases ha : ansA es l ss 0 [] with
  | none => rw [ha] at h; cases h
  | some q =>
   rw [ha] at h
   obtain ⟨h1, h2, h3⟩ := ansA_some es l ss 0 [] q ha
   refine ⟨fun s hs => (h1 s hs).1, h2, fun e he hk => ?_⟩
   have := (ansB_iff q es).1 h e he hk
   rw [h3] at this
   simpa [lookI] using this
 ·rintro ⟨h1, h2, h3⟩
  obtain ⟨q, hq⟩ := ansA_ex es l ss 0 [] (fun s hs => ⟨h1 s hs, rfl⟩) h2
  rw [hq]
  obtain ⟨_, _, h4⟩ := ansA_some es l ss 0 [] q hq
  exact (ansB_iff q es).2 fun e he hk => by rw [h4]; simp [h3 e he hk]
theorem answered_perm (es : List En) (l : List (Int × Int)) {ss ss' : List Sp} (h : ss.Perm ss') : answeredM es ss l = answeredM es ss' l := by
 have hm := h.map (·.serial)
 rw [Bool.eq_iff_iff, answered_iff, answered_iff]
 constructor
 ·rintro ⟨h1, h2, h3⟩
  exact ⟨fun s hs => h1 s (h.mem_iff.2 hs), hm.nodup_iff.1 h2, fun e he hk => hm.mem_iff.1 (h3 e he hk)⟩
 ·rintro ⟨h1, h2, h3⟩
  exact ⟨fun s hs => h1 s (h.mem_iff.1 hs), hm.nodup_iff.2 h2, fun e he hk => hm.mem_iff.2 (h3 e he hk)⟩
theorem any_perm {α : Type} (f : α → Bool) {l l' : List α} (h : l.Perm l') : l.any f = l'.any f := by
 rw [Bool.eq_iff_iff, List.any_eq_true, List.any_eq_true]
 exact ⟨fun ⟨x, hx, hy⟩ => ⟨x, h.mem_iff.1 hx, hy⟩, fun ⟨x, hx, hy⟩ => ⟨x, h.mem_iff.2 hx, hy⟩⟩
theorem late_perm (l : List (Int × Int)) {ss ss' : List Sp} (h : ss.Perm ss') : lateB l ss = lateB l ss' := by
 unfold lateB
 rw [any_perm _ h, show (fun a => lateIn l a ss) = fun a => lateIn l a ss' from funext fun a => any_perm _ h]
theorem check_perm (t : Tb) (nms : List ByteArray) (tries : Int) (es : List En) {ss ss' : List Sp} (h : ss.Perm ss') : checkM t nms tries es ss = checkM t nms tries es ss' := by
 unfold checkM
 cases runM (filtN nms) es (newM t tries) with
 | none => rfl
 | some _ =>
  cases placesM es with
  | none => rfl
  | some l => simp only [answered_perm es l h, late_perm l h]
theorem turn_perm {α : Type} (l : List α) (k : Nat) : l.Perm (l.drop k ++ l.take k) := by
 have := List.perm_append_comm (l₁ := l.take k) (l₂ := l.drop k)
 rwa [List.take_append_drop] at this
end
end Go.Proofs.YtnjnooeldkideaaDoor
