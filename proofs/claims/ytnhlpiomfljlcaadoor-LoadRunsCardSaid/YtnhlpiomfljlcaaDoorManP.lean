/- manifest: what it is, in plain Lean. -/
import Derived.Test.YtnhlpiomfljlcaaDoorGlyPA
import Derived.Test.YtnhlpiomfljlcaaDoorParts
namespace Go.Proofs.YtnhlpiomfljlcaaDoor
set_option linter.unusedVariables false
set_option linter.unusedSimpArgs false
open Go.RowKit

/-- A manifest's value; n: how many chunks. -/
structure Man where
  prod : ByteArray
  ver : Int
  size : Int
  chunk : Int
  dig : List UInt8
  A : Option Addr
  n : Nat
  c : Nat
def Man.cells (m : Man) : Array Value := (([Value.string m.prod, .int .u64 m.ver, .int .i64 m.size, .int .i64 m.chunk] ++ m.dig.map bval) ++ [Value.slice m.A m.n m.c]).toArray
def Man.val (m : Man) : Value := .agg m.cells
structure Man.Ok (m : Man) : Prop where
  dig : m.dig.length = 32
  v0 : 0 ≤ m.ver
  v1 : m.ver ≤ 18446744073709551615
  s0 : -9223372036854775808 ≤ m.size
  s1 : m.size ≤ 9223372036854775807
  c0 : -9223372036854775808 ≤ m.chunk
  c1 : m.chunk ≤ 9223372036854775807
  n1 : m.n ≤ 9223372036854775807
theorem Man.cells_size {m : Man} (h : m.Ok) : m.cells.size = 37 := by simp [Man.cells, h.dig]
theorem Man.g0 (m : Man) : m.cells[0]? = some (.string m.prod) := by simp [Man.cells]
theorem Man.g1 (m : Man) : m.cells[1]? = some (.int .u64 m.ver) := by simp [Man.cells]
theorem Man.g2 (m : Man) : m.cells[2]? = some (.int .i64 m.size) := by simp [Man.cells]
theorem Man.g3 (m : Man) : m.cells[3]? = some (.int .i64 m.chunk) := by simp [Man.cells]
theorem Man.g36 {m : Man} (h : m.Ok) : m.cells[36]? = some (.slice m.A m.n m.c) := by
  unfold Man.cells
  rw [List.getElem?_toArray, List.getElem?_append_right (by simp [h.dig])]
  simp [h.dig]
theorem Man.one (m : Man) : m.cells.all (·.oneCell') = true := by
  unfold Man.cells
  apply all_oneCell_toArray
  intro v hv
  simp only [List.mem_append, List.mem_cons, List.not_mem_nil, or_false] at hv
  rcases hv with ((rfl | rfl | rfl | rfl) | hv) | rfl
  · rfl
  · rfl
  · rfl
  · rfl
  · obtain ⟨b, _, rfl⟩ := List.mem_map.1 hv; rfl
  · rfl

def cntM (size chunk : Int) : Int := if size < 1 ∨ chunk < 1 then 0 else (size - 1) / chunk + 1
theorem cntM_ref (size chunk : Int) (h1 : 1 ≤ size) (h2 : 1 ≤ chunk) : cntM size chunk = if 0 < size % chunk then size / chunk + 1 else size / chunk := by
  have h3 := Int.emod_add_mul_ediv size chunk
  have h4 := Int.emod_nonneg size (by omega : chunk ≠ 0)
  have h5 := Int.emod_lt_of_pos size (by omega : 0 < chunk)
  unfold cntM
  rw [if_neg (by omega)]
  generalize size / chunk = q at *
  generalize size % chunk = r at *
  split
  · have : size - 1 = (r - 1) + chunk * q := by omega
    rw [this, Int.add_mul_ediv_left _ _ (by omega : chunk ≠ 0), Int.ediv_eq_zero_of_lt (by omega) (by omega)]
    omega
  · have hr : r = 0 := by omega
    have : size - 1 = (chunk - 1) + chunk * (q - 1) := by rw [Int.mul_sub, Int.mul_one]; omega
    rw [this, Int.add_mul_ediv_left _ _ (by omega : chunk ≠ 0), Int.ediv_eq_zero_of_lt (by omega) (by omega)]
    omega
/-- How many chunks, and how long they are. -/
theorem cntM_span (size chunk : Int) (h1 : 1 ≤ size) (h2 : 1 ≤ chunk) : 1 ≤ cntM size chunk ∧ (cntM size chunk - 1) * chunk < size ∧ size ≤ cntM size chunk * chunk := by
  unfold cntM
  rw [if_neg (by omega)]
  have h3 := Int.emod_add_mul_ediv (size - 1) chunk
  have h4 := Int.emod_nonneg (size - 1) (by omega : chunk ≠ 0)
  have h5 := Int.emod_lt_of_pos (size - 1) (by omega : 0 < chunk)
  have h6 := Int.ediv_nonneg (by omega : 0 ≤ size - 1) (by omega : 0 ≤ chunk)
  generalize (size - 1) / chunk = q at *
  generalize (size - 1) % chunk = r at *
  refine ⟨by omega, ?_, ?_⟩
  · rw [Int.add_sub_cancel, Int.mul_comm]; omega
  · rw [Int.add_mul, Int.one_mul, Int.mul_comm]; omega

def rightB (prod : ByteArray) (ver size chunk : Int) (n : Nat) : Bool :=
  nameOk prod && (decide (1 ≤ ver) && decide (ver ≤ 281474976710656) && decide (1 ≤ size) && decide (size ≤ 65536) && decide (64 ≤ chunk) && decide (chunk ≤ 1024) && decide (chunk % 64 = 0) && decide ((n : Int) = cntM size chunk) && decide (n ≤ 64))
def rightM (m : Man) : Bool := rightB m.prod m.ver m.size m.chunk m.n
theorem rightM_iff (m : Man) : rightM m = true ↔ nameOk m.prod = true ∧ 1 ≤ m.ver ∧ m.ver ≤ 281474976710656 ∧ 1 ≤ m.size ∧ m.size ≤ 65536 ∧ 64 ≤ m.chunk ∧ m.chunk ≤ 1024 ∧ m.chunk % 64 = 0 ∧ (m.n : Int) = cntM m.size m.chunk ∧ m.n ≤ 64 := by
  simp only [rightM, rightB, Bool.and_eq_true, decide_eq_true_eq]
  constructor
  · rintro ⟨a, ⟨⟨⟨⟨⟨⟨⟨⟨b, c⟩, d⟩, e⟩, f⟩, g⟩, h⟩, i⟩, j⟩⟩
    exact ⟨a, b, c, d, e, f, g, h, i, j⟩
  · rintro ⟨a, b, c, d, e, f, g, h, i, j⟩
    exact ⟨a, ⟨⟨⟨⟨⟨⟨⟨⟨b, c⟩, d⟩, e⟩, f⟩, g⟩, h⟩, i⟩, j⟩⟩
theorem rightM_no (m : Man) (h : ¬ (nameOk m.prod = true ∧ 1 ≤ m.ver ∧ m.ver ≤ 281474976710656 ∧ 1 ≤ m.size ∧ m.size ≤ 65536 ∧ 64 ≤ m.chunk ∧ m.chunk ≤ 1024 ∧ m.chunk % 64 = 0 ∧ (m.n : Int) = cntM m.size m.chunk ∧ m.n ≤ 64)) : rightM m = false := by
  cases hr : rightM m with
  | false => rfl
  | true => exact absurd ((rightM_iff m).1 hr) h
/-- Where a chunk begins, how long it is. -/
def spanM (m : Man) (i : Int) : Int × Int := if rightM m = true ∧ 0 ≤ i ∧ i < m.n then (i * m.chunk, min m.chunk (m.size - i * m.chunk)) else (0, 0)
end Go.Proofs.YtnhlpiomfljlcaaDoor
