/- Hashes as arguments and as values. -/
import Derived.Test.YtfbffmckmchbbaaDoorParts
namespace Go.Proofs.YtfbffmckmchbbaaDoor
set_option linter.unusedVariables false
set_option linter.unusedSimpArgs false
open Go.RowKit

theorem eq_bcells (xs ys : List UInt8) (hx : xs.length = 32) (hy : ys.length = 32) (w : World) : (Op.equalIn 10000 26 (.agg (bcells xs)) (.agg (bcells ys))).run Tryd.prog w = .ok (xs == ys) w :=
  run_equalIn_bytes w 9998 26 5 32 Tryd.underlying26 Tryd.underlying5 Tryd.sizeOf5 xs ys hx hy
theorem Arg.hash {H : Type} {enc : TypeId × Value → H} {W : World} {v : Value} (h : Arg enc Tryd.prog W 26 v) : ∃ xs : List UInt8, xs.length = 32 ∧ v = .agg (bcells xs) := by
  obtain ⟨cs, xs, rfl, hl, hl2, hq⟩ := h.array1 (α := UInt8) (Q := fun u b => u = bval b) Tryd.underlying26 (by kernel_rfl) (by kernel_rfl) (fun u hu => by
    obtain ⟨b, hb⟩ := hu.byte Tryd.underlying5
    exact ⟨b, by simpa using hb⟩)
  refine ⟨xs, hl2, ?_⟩
  unfold bcells
  congr 1
  congr 1
  apply List.ext_getElem
  · simp [hl, hl2]
  · intro i h1 h2
    rw [hq i h1 (by omega)]
    simp

end Go.Proofs.YtfbffmckmchbbaaDoor
