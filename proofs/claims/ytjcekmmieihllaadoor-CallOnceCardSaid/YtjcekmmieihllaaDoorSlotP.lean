/- slot: what is known of one, in plain Lean; slots as values. -/
import Derived.Test.YtjcekmmieihllaaDoorParse
import Derived.Laws.StructEq
namespace Go.Proofs.YtjcekmmieihllaaDoor
set_option linter.unusedVariables false
set_option linter.unusedSimpArgs false
open Go.RowKit Go.Lib

/-- What is known of a slot. -/
structure Slt where
  st : Int
  tr : Int
  ver : Int
  sz : Int
  dig : List UInt8
structure Slt.Ok (s : Slt) : Prop where
  dig : s.dig.length = 32
  st0 : -9223372036854775808 ≤ s.st
  st1 : s.st ≤ 9223372036854775807
  tr0 : -9223372036854775808 ≤ s.tr
  tr1 : s.tr ≤ 9223372036854775807
  ver0 : 0 ≤ s.ver
  ver1 : s.ver ≤ 18446744073709551615
  sz0 : -9223372036854775808 ≤ s.sz
  sz1 : s.sz ≤ 9223372036854775807
def Slt.cells (s : Slt) : Array Value := ([Value.int .i64 s.st, .int .i64 s.tr, .int .u64 s.ver, .int .i64 s.sz] ++ s.dig.map bval).toArray
def Slt.val (s : Slt) : Value := .agg s.cells
def zS : Slt := ⟨0, 0, 0, 0, zeros32⟩
/-- Nothing is known of it but what it is. -/
def bareS (n : Int) : Slt := ⟨n, 0, 0, 0, zeros32⟩
def sameS (s t : Slt) : Bool := s.st == t.st && (s.tr == t.tr && (s.ver == t.ver && (s.sz == t.sz && s.dig == t.dig)))
def noneS (s : Slt) : Bool := s.tr == 0 && (s.ver == 0 && (s.sz == 0 && s.dig == zeros32))
def imgS (s : Slt) : Bool := decide (1 ≤ s.ver) && (decide (s.ver ≤ 281474976710656) && (decide (1 ≤ s.sz) && decide (s.sz ≤ 65536)))
def rightS (s : Slt) : Bool :=
  if s.st = 0 ∨ s.st = 1 ∨ s.st = 4 then noneS s
  else if s.st = 2 then decide (0 ≤ s.tr) && (decide (s.tr ≤ 7) && imgS s)
  else if s.st = 3 then s.tr == 0 && imgS s
  else false
def fullS (s : Slt) : Bool := s.st == 2 || s.st == 3
def chkS (s : Slt) : Slt × Int := if rightS s = true then (s, 0) else (zS, 101)
def tryS (s : Slt) : Slt × Int := if (rightS s && (s.st == 2 && !(s.tr == 0))) = true then ({ s with tr := s.tr - 1 }, 0) else (zS, 101)
def goodS (s : Slt) : Slt × Int := if (rightS s && fullS s) = true then ({ s with st := 3, tr := 0 }, 0) else (zS, 101)
def badS (s : Slt) : Slt × Int := if (rightS s && fullS s) = true then (bareS 4, 0) else (zS, 101)
def bootS (s : Slt) : Bool := rightS s && (s.st == 3 || (s.st == 2 && decide (0 < s.tr)))
theorem zeros_len : zeros32.length = 32 := by simp [zeros32]
theorem bareS_ok (n : Int) (h0 : -9223372036854775808 ≤ n) (h1 : n ≤ 9223372036854775807) : (bareS n).Ok := ⟨zeros_len, h0, h1, by simp [bareS], by simp [bareS], by simp [bareS], by simp [bareS], by simp [bareS], by simp [bareS]⟩
theorem zS_ok : zS.Ok := bareS_ok 0 (by decide) (by decide)
theorem zS_bare : zS = bareS 0 := rfl
theorem Slt.size {s : Slt} (h : s.dig.length = 32) : s.cells.size = 36 := by simp [Slt.cells, h]
theorem Slt.at0 (s : Slt) : s.cells[0]? = some (.int .i64 s.st) := rfl
theorem Slt.at1 (s : Slt) : s.cells[1]? = some (.int .i64 s.tr) := rfl
theorem Slt.at2 (s : Slt) : s.cells[2]? = some (.int .u64 s.ver) := rfl
theorem Slt.at3 (s : Slt) : s.cells[3]? = some (.int .i64 s.sz) := rfl
theorem Slt.at4 (s : Slt) (j : Nat) : s.cells[4 + j]? = (s.dig.map bval)[j]? := by
  unfold Slt.cells
  rw [List.getElem?_toArray, List.getElem?_append_right (by simp)]
  congr 1
  simp
theorem Slt.one (s : Slt) : s.cells.all (·.oneCell') = true := by
  unfold Slt.cells
  rw [List.all_toArray, List.all_append, Bool.and_eq_true]
  refine ⟨rfl, ?_⟩
  rw [List.all_eq_true]
  intro u hu
  obtain ⟨b, _, rfl⟩ := List.mem_map.1 hu
  rfl
theorem same_refl (s : Slt) : sameS s s = true := by simp [sameS]
theorem same_iff (s t : Slt) : sameS s t = true ↔ s = t := by
  constructor
  · intro h
    simp only [sameS, Bool.and_eq_true, beq_iff_eq] at h
    obtain ⟨a, b, c, d, e⟩ := h
    cases s; cases t
    simp_all
  · rintro rfl
    exact same_refl s
theorem same_bare (s : Slt) : sameS s (bareS s.st) = noneS s := by simp [sameS, bareS, noneS]

/-- Two slots held against each other. -/
theorem part_int (w : World) (xs : Array Value) (t : TypeId) (off : Nat) (v : Value) (hA : ∀ w, (isAgg t).run Tryd.prog w = .ok false w) (h : xs[off]? = some v) : (part t xs off).run Tryd.prog w = .ok v w := by
  unfold part
  simp [hA, h]
theorem part_dig (w : World) (s : Slt) (hs : s.dig.length = 32) : (part 37 s.cells 4).run Tryd.prog w = .ok (.agg (bcells s.dig)) w := by
  have hA : (isAgg 37).run Tryd.prog w = .ok true w := Tryd.isAgg37 w
  have hS : (sizeOf 37).run Tryd.prog w = .ok 32 w := Tryd.sizeOf37 w
  have e : s.cells.extract 4 (4 + 32) = bcells s.dig := by
    apply Array.ext_getElem?
    intro j
    rw [Array.getElem?_extract]
    split
    · rename_i hj
      rw [Slt.at4]
      simp [bcells]
    · rename_i hj
      rw [Slt.size hs] at hj
      rw [Array.getElem?_eq_none]
      rw [bcells_size, hs]
      omega
  unfold part
  simp [hA, hS, e]
theorem eq_slot (s t : Slt) (hs : s.dig.length = 32) (ht : t.dig.length = 32) (w : World) : (Op.equalIn 10000 39 (.agg s.cells) (.agg t.cells)).run Tryd.prog w = .ok (sameS s t) w := by
  have i3 : ∀ w, (isAgg 3).run Tryd.prog w = .ok false w := Tryd.isAgg3
  have i6 : ∀ w, (isAgg 35).run Tryd.prog w = .ok false w := Tryd.isAgg35
  have e5 : ∀ w, (Op.equalIn 9999 37 (.agg (bcells s.dig)) (.agg (bcells t.dig))).run Tryd.prog w = .ok (s.dig == t.dig) w := fun w => run_equalIn_bytes w 9997 37 5 32 Tryd.underlying37 Tryd.underlying5 Tryd.sizeOf5 s.dig t.dig hs ht
  have q1 := fun w => part_int w s.cells 3 0 _ i3 s.at0
  have q2 := fun w => part_int w s.cells 3 1 _ i3 s.at1
  have q3 := fun w => part_int w s.cells 35 2 _ i6 s.at2
  have q4 := fun w => part_int w s.cells 3 3 _ i3 s.at3
  have q5 := fun w => part_dig w s hs
  have r1 := fun w => part_int w t.cells 3 0 _ i3 t.at0
  have r2 := fun w => part_int w t.cells 3 1 _ i3 t.at1
  have r3 := fun w => part_int w t.cells 35 2 _ i6 t.at2
  have r4 := fun w => part_int w t.cells 3 3 _ i3 t.at3
  have r5 := fun w => part_dig w t ht
  rw [run_equalIn_struct w 9999 39 s.cells t.cells (by simp [Program.fieldsOf, Tryd.underlying39]) (by kernel_rfl)]
  simp only [Program.fieldsOf, Tryd.underlying39]
  have c1 : ∀ (w : World) (a b : Int), (Op.equalIn 9999 3 (.int .i64 a) (.int .i64 b)).run Tryd.prog w = .ok (a == b) w := fun w a b => run_equalIn_int w 9998 3 .i64 .i64 a b Tryd.underlying3
  have c2 : ∀ (w : World) (a b : Int), (Op.equalIn 9999 35 (.int .u64 a) (.int .u64 b)).run Tryd.prog w = .ok (a == b) w := fun w a b => run_equalIn_int w 9998 35 .u64 .u64 a b Tryd.underlying35
  simp only [Op.eqFields, Sem.run_bind, Sem.run_ite, Sem.run_pure, Result.andThen_ok, q1, q2, q3, q4, q5, r1, r2, r3, r4, r5, c1, c2, e5]
  unfold sameS
  cases h1 : s.st == t.st <;> cases h2 : s.tr == t.tr <;> cases h3 : s.ver == t.ver <;> cases h4 : s.sz == t.sz <;> cases h5 : s.dig == t.dig <;> simp
end Go.Proofs.YtjcekmmieihllaaDoor
