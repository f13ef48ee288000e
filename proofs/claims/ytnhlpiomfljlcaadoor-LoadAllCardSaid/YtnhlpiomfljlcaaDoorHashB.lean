/- Hashes as arguments and as values. An array of 32 bytes that is filled. -/
import Derived.Test.YtnhlpiomfljlcaaDoorParts
namespace Go.Proofs.YtnhlpiomfljlcaaDoor
section
set_option linter.unusedVariables false
set_option linter.unusedSimpArgs false
open Go.RowKit

theorem eq_bcells (xs ys : List UInt8) (hx : xs.length = 32) (hy : ys.length = 32) (w : World) : (Op.equalIn 10000 50 (.agg (bcells xs)) (.agg (bcells ys))).run Tryd.prog w = .ok (xs == ys) w :=
  run_equalIn_bytes w 9998 50 5 32 Tryd.underlying50 Tryd.underlying5 Tryd.sizeOf5 xs ys hx hy
theorem Arg.hash {H : Type} {enc : TypeId × Value → H} {W : World} {v : Value} (h : Arg enc Tryd.prog W 50 v) : ∃ xs : List UInt8, xs.length = 32 ∧ v = .agg (bcells xs) := by
  obtain ⟨cs, xs, rfl, hl, hl2, hq⟩ := h.array1 (α := UInt8) (Q := fun u b => u = bval b) Tryd.underlying50 (by kernel_rfl) (by kernel_rfl) (fun u hu => by
    obtain ⟨b, hb⟩ := hu.byte Tryd.underlying5
    exact ⟨b, by simpa using hb⟩)
  refine ⟨xs, hl2, ?_⟩
  unfold bcells
  congr 1
  congr 1
  apply List.ext_getElem
  · simp [hl, hl2]
  · intro i h1 h2
    rw [hq i h1 (by omega)]
    simp
end

section
set_option linter.unusedVariables false
set_option linter.unusedSimpArgs false
open Go.RowKit
/-- An array of 32 bytes that is filled from its head. -/
def bpart (l : List UInt8) : Array Value := (l.map bval ++ List.replicate (32 - l.length) (Value.int .u8 0)).toArray
theorem zero32_cells : bpart [] = #[.int .u8 0, .int .u8 0, .int .u8 0, .int .u8 0, .int .u8 0, .int .u8 0, .int .u8 0, .int .u8 0, .int .u8 0, .int .u8 0, .int .u8 0, .int .u8 0, .int .u8 0, .int .u8 0, .int .u8 0, .int .u8 0, .int .u8 0, .int .u8 0, .int .u8 0, .int .u8 0, .int .u8 0, .int .u8 0, .int .u8 0, .int .u8 0, .int .u8 0, .int .u8 0, .int .u8 0, .int .u8 0, .int .u8 0, .int .u8 0, .int .u8 0, .int .u8 0] := by kernel_rfl

theorem bpart_size (l : List UInt8) (h : l.length ≤ 32) : (bpart l).size = 32 := by simp [bpart]; omega
theorem bpart_push (l : List UInt8) (x : UInt8) (h : l.length < 32) : (bpart l).setIfInBounds l.length (bval x) = bpart (l ++ [x]) := by
  unfold bpart
  apply Array.toList_inj.1
  rw [Array.toList_setIfInBounds]
  simp only [List.map_append, List.map_cons, List.map_nil, List.length_append, List.length_cons, List.length_nil, Nat.zero_add, List.append_assoc]
  have e : 32 - l.length = (32 - (l.length + 1)) + 1 := by omega
  rw [e, List.replicate_succ, List.set_append_right _ _ (by simp)]
  simp
theorem bpart_has (l : List UInt8) (h : l.length ≤ 32) (i : Nat) (hi : i < 32) : ∃ v, (bpart l)[i]? = some v := ⟨_, Array.getElem?_eq_getElem (by rw [bpart_size l h]; exact hi)⟩
theorem bpart_one (l : List UInt8) : (bpart l).all (·.oneCell') = true := by
  unfold bpart
  apply all_oneCell_toArray
  intro v hv
  rcases List.mem_append.1 hv with h | h
  · obtain ⟨b, _, rfl⟩ := List.mem_map.1 h; rfl
  · rw [List.eq_of_mem_replicate h]; rfl
end
end Go.Proofs.YtnhlpiomfljlcaaDoor
