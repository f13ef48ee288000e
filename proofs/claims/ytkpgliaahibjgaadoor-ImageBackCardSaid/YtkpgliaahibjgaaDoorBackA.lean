/- ImageBack: its first argument. -/
import Derived.Test.YtkpgliaahibjgaaDoorLnam
namespace Go.Proofs.YtkpgliaahibjgaaDoor
set_option linter.unusedVariables false
set_option linter.unusedSimpArgs false
open Go.RowKit Go.Lib Go.Deep
section
variable {H : Type} {enc : TypeId × Value → H} {W : World}
/-- What an image's manifest is made of. -/
structure Asked where
  prod : ByteArray
  ver : Int
  ch : Int
  p : Part
def Asked.cells (a : Asked) : Array Value := #[.string a.prod, .int .u64 a.ver, .int .i64 a.ch, .slice a.p.A a.p.bs.length a.p.c]
theorem Arg.asked {v : Value} (h : Arg enc Tryd.prog W 59 v) : ∃ a : Asked, v = .agg a.cells ∧ PIn a.p W ∧ a.prod.size ≤ maxLen ∧ 0 ≤ a.ver ∧ a.ver ≤ 18446744073709551615 ∧ -9223372036854775808 ≤ a.ch ∧ a.ch ≤ 9223372036854775807 := by
  obtain ⟨cs, rfl, -, -⟩ := h.struct_ Tryd.underlying59
  have hcs : Cel enc Tryd.prog W 59 cs := by simpa [Value.cells] using h.reads
  obtain ⟨hl, hf⟩ := hcs.ones Tryd.underlying59 (by kernel_rfl) (by kernel_rfl)
  obtain ⟨c0, e0, h0⟩ := hf 0 _ rfl
  obtain ⟨c1, e1, h1⟩ := hf 1 _ rfl
  obtain ⟨c2, e2, h2⟩ := hf 2 _ rfl
  obtain ⟨c3, e3, h3⟩ := hf 3 _ rfl
  obtain ⟨s, q0, hs⟩ := Cel.string (t := 9) Tryd.underlying9 h0
  obtain ⟨v, q1, hv⟩ := Cel.int (t := 29) Tryd.underlying29 h1
  obtain ⟨k, q2, hk⟩ := Cel.int (t := 3) Tryd.underlying3 h2
  obtain ⟨p, q3, hpi⟩ := cel_bytes h3
  obtain ⟨v0, v1⟩ : 0 ≤ v ∧ v ≤ 18446744073709551615 := by
    have := hv
    simp [Lit.wf, IntKind.min, IntKind.max, IntKind.signed, IntKind.bits] at this
    exact this
  obtain ⟨k0, k1⟩ := wf_i64 hk
  have hl' : cs.length = 4 := hl
  clear h hcs hf h0 h1 h2 h3 hl hv hk
  match cs, hl' with
  | [x0, x1, x2, x3], _ =>
    simp at e0 e1 e2 e3 q0 q1 q2 q3
    refine ⟨⟨s, v, k, p⟩, ?_, hpi, hs, v0, v1, k0, k1⟩
    simp only [Asked.cells]
    rw [e0, e1, e2, e3, q0, q1, q2, q3]
end
end Go.Proofs.YtkpgliaahibjgaaDoor
