/- A ring of strings: Close, Closed. -/
import Derived.Test.YtlhplndngfffoaaRingStr
import Derived.Test.YtlhplndngfffoaaSlices
namespace Go.Proofs.Ytlhplndngfffoaa
set_option linter.unusedVariables false
set_option linter.unusedSimpArgs false
open Go.RowKit

set_option maxHeartbeats 400000 in
theorem closed_str (ρ : Ring) {W w : World} {I : Nat → Option Obj} {F : List (Nat × Obj)} (h : St W w I (ρ.L 89 9 ++ F)) :
    Calls Try.prog 30 #[.pointer (some ⟨ρ.r, 0, none⟩)] w fun e w' => e = .returned (.bool ρ.closed) ∧ w = w' := by
  have h3 := Ring.c3 h
  go_enter Try.func30, Try.ntmps30
  go_wp2_with fail
  go_ret
  exact ⟨rfl, rfl⟩

set_option maxHeartbeats 400000 in
theorem close_str (ρ : Ring) (ok : ρ.Ok) {W w : World} {I : Nat → Option Obj} {F : List (Nat × Obj)} (h : St W w I (ρ.L 89 9 ++ F)) :
    Calls Try.prog 27 #[.pointer (some ⟨ρ.r, 0, none⟩)] w fun e w' => e = .returned (.int .i64 (ρ.xs.length : Int)) ∧ St W w' I ((ρ.close (.string ⟨#[]⟩)).L 89 9 ++ F) := by
  have h0 := Ring.c0 h
  have h2 := Ring.c2 h
  have n1 := ok.n1
  have hcl : ∀ ty, (Builtin.clear_ #[67] ty #[.slice (some ⟨ρ.ab, 0, none⟩) ρ.n ρ.n]).run Try.prog w = .ok (.tuple #[]) (w.setRow ρ.ab (Array.replicate ρ.n (.string ⟨#[]⟩))) :=
    fun ty => run_clear_row 67 9 ty (.string ⟨#[]⟩) Try.underlying67 (by kernel_rfl) rfl rfl (h.own (ρ.ab, .cells ρ.arr 9 (0, 0)) (by simp [Ring.L])) ok.size ok.n1
  have hst : St W (w.setRow ρ.ab (Array.replicate ρ.n (.string ⟨#[]⟩))) I ((Ring.mk ρ.r ρ.ab ρ.n ρ.first (Array.replicate ρ.n (.string ⟨#[]⟩)) ρ.xs ρ.closed).L 89 9 ++ F) := by
    have s1 : St W w I ([(ρ.ab, .cells ρ.arr 9 (0, 0))] ++ ([(ρ.r, _)] ++ F)) := St.swap (A := [(ρ.r, _)]) h
    have s2 := St.setRow s1 (Array.replicate ρ.n (.string ⟨#[]⟩))
    exact St.swap (A := [(ρ.ab, _)]) (B := [(ρ.r, _)]) s2
  have g1 := Ring.c1 hst
  have g2 := Ring.c2 hst
  have g3 := Ring.c3 hst
  have q1 := Ring.fr hst 1
  have q2 := Ring.fr hst 2
  have q3 := Ring.fr hst 3
  have fin : St W ((((w.setRow ρ.ab (Array.replicate ρ.n (.string ⟨#[]⟩))).setCell ⟨ρ.r, 1, none⟩ (.int .i64 0)).setCell ⟨ρ.r, 2, none⟩ (.int .i64 0)).setCell ⟨ρ.r, 3, none⟩ (.bool true)) I ((ρ.close (.string ⟨#[]⟩)).L 89 9 ++ F) := by
    have s1 := St.set (A := []) (g := ρ.r) hst 1 (.int .i64 0)
    have s2 := St.set (A := []) (g := ρ.r) s1 2 (.int .i64 0)
    have s3 := St.set (A := []) (g := ρ.r) s2 3 (.bool true)
    simpa [Ring.L, Ring.close] using s3
  have Fin := Lib.hid fin; clear fin hst
  generalize w.setRow ρ.ab (Array.replicate ρ.n (.string ⟨#[]⟩)) = w1 at *
  go_enter Try.func27, Try.ntmps27
  go_wp2_with fail
  go_ret
  exact ⟨rfl, Fin.out⟩
end Go.Proofs.Ytlhplndngfffoaa
