/- ImageBack: pieces are chunks. -/
import Derived.Test.YtkpgliaahibjgaaDoorBackA
namespace Go.Proofs.YtkpgliaahibjgaaDoor
open Go.RowKit Go.Lib
theorem cut_chunk {m : Man} {bs : List UInt8} (hr : rightM m = true) (hms : (bs.length : Int) = m.size) {k : Nat} (hk : k < m.n) : cutAt m bs k = chunkAt bs m.chunk.toNat k := by
  obtain ⟨_, _, _, h1, h2, h3, h4, _, h5, h6⟩ := (rightM_iff m).1 hr
  unfold cutAt chunkAt
  rw [spanM_yes hr (by omega) (by omega)]
  obtain ⟨q, hq⟩ : ∃ q : Nat, m.chunk = (q : Int) := ⟨m.chunk.toNat, by omega⟩
  rw [hq, ← hms]
  simp only
  rw [← Int.natCast_mul, Int.toNat_natCast, Int.toNat_natCast]
  generalize k * q = P
  rw [List.take_eq_take_iff, List.length_drop]
  omega
theorem hashes_at {bs : List UInt8} {q n k : Nat} (hk : k < n) : (hashes bs q n)[k]? = some (hashOf (chunkAt bs q k)) := by
  unfold hashes
  rw [List.getElem?_map, List.getElem?_range hk]
  rfl
end Go.Proofs.YtkpgliaahibjgaaDoor
