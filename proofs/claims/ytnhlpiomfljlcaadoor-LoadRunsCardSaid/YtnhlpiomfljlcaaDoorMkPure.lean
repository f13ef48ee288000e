/- Manifests built: the law of a literal. -/
import Derived.Test.YtnhlpiomfljlcaaDoorManP
import Derived.Laws.Tables
namespace Go.Proofs.YtnhlpiomfljlcaaDoor
set_option linter.unusedVariables false
set_option linter.unusedSimpArgs false
open Go.RowKit

theorem thirtytwo {α : Type} (l : List α) (h : l.length = 32) : ∃ d0 d1 d2 d3 d4 d5 d6 d7 d8 d9 d10 d11 d12 d13 d14 d15 d16 d17 d18 d19 d20 d21 d22 d23 d24 d25 d26 d27 d28 d29 d30 d31, l = [d0, d1, d2, d3, d4, d5, d6, d7, d8, d9, d10, d11, d12, d13, d14, d15, d16, d17, d18, d19, d20, d21, d22, d23, d24, d25, d26, d27, d28, d29, d30, d31] := by
  match l, h with
  | [d0, d1, d2, d3, d4, d5, d6, d7, d8, d9, d10, d11, d12, d13, d14, d15, d16, d17, d18, d19, d20, d21, d22, d23, d24, d25, d26, d27, d28, d29, d30, d31], _ => exact ⟨d0, d1, d2, d3, d4, d5, d6, d7, d8, d9, d10, d11, d12, d13, d14, d15, d16, d17, d18, d19, d20, d21, d22, d23, d24, d25, d26, d27, d28, d29, d30, d31, rfl⟩
set_option maxRecDepth 100000 in
theorem run_build_man (prod : ByteArray) (ver size chunk : Int) (ds : List UInt8) (hd : ds.length = 32) (w : World) :
    (Instr.build 53 #[(0, .string prod), (1, .int .u64 ver), (2, .int .i64 size), (3, .int .i64 chunk), (4, .agg (bcells ds))]).run Tryd.prog w = .ok (.agg (Man.cells ⟨prod, ver, size, chunk, ds, none, 0, 0⟩)) w := by
  obtain ⟨d0, d1, d2, d3, d4, d5, d6, d7, d8, d9, d10, d11, d12, d13, d14, d15, d16, d17, d18, d19, d20, d21, d22, d23, d24, d25, d26, d27, d28, d29, d30, d31, rfl⟩ := thirtytwo ds hd
  exact run_build w _ _ _ (by kernel_rfl)
def zman : Man := ⟨⟨#[]⟩, 0, 0, 0, List.replicate 32 0, none, 0, 0⟩
theorem run_build_zero (w : World) : (Instr.build 53 #[]).run Tryd.prog w = .ok (.agg zman.cells) w := run_build w _ _ _ (by kernel_rfl)
theorem zman_ok : zman.Ok := ⟨by simp [zman], by simp [zman], by simp [zman], by simp [zman], by simp [zman], by simp [zman], by simp [zman], by simp [zman]⟩
theorem man_set36 (m : Man) (ok : m.Ok) (A : Option Addr) (n c : Nat) : m.cells.setIfInBounds 36 (.slice A n c) = (Man.cells { m with A := A, n := n, c := c }) := by
  unfold Man.cells
  apply Array.toList_inj.1
  rw [Array.toList_setIfInBounds]
  simp only
  rw [List.set_append_right _ _ (by simp [ok.dig])]
  simp [ok.dig]
end Go.Proofs.YtnhlpiomfljlcaaDoor
