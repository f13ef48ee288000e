/- digest: New, Len. -/
import Derived.Test.YtkpgliaahibjgaaDoorMix
import Derived.Test.YtkpgliaahibjgaaDoorDigPure
namespace Go.Proofs.YtkpgliaahibjgaaDoor
set_option linter.unusedVariables false
set_option linter.unusedSimpArgs false
open Go.RowKit

/-- A digest's cells. -/
def dcells (l : List Wd) (rv : Value) (m : Int) : Array Value := (l.map wval ++ [rv, .int .u64 m]).toArray

/-- The blocks of a digest that has taken bs. -/
def Dig (g : Nat) (bs : List UInt8) (L : List (Nat × Obj)) : Prop :=
  ∃ rv Lr, Row 5 1 rv (took bs).2.length ((took bs).2.map bval) Lr ∧ L = (g, .cells (dcells (took bs).1 rv bs.length) 94 (0, 0)) :: Lr

theorem dcells_zero : dcells hTab (.slice none 0 0) 0 = #[.int .u32 1779033703, .int .u32 3144134277, .int .u32 1013904242, .int .u32 2773480762, .int .u32 1359893119, .int .u32 2600822924, .int .u32 528734635, .int .u32 1541459225, .slice none 0 0, .int .u64 0] := by kernel_rfl

theorem new_any {W w : World} {I : Nat → Option Obj} {F : List (Nat × Obj)} (hst : St W w I F) :
    Calls Tryd.prog 31 #[] w fun e w' => ∃ g L, e = .returned (.pointer (some ⟨g, 0, none⟩)) ∧ Dig g [] L ∧ St W w' I (L ++ F) := by
  go_enter Tryd.func31, Tryd.ntmps31
  go_wp2_with fail
  refine (begin_any hst).mono ?_
  rintro e w1 ⟨rfl, h1⟩
  have h2 := h1.alloc (.cells (dcells hTab (.slice none 0 0) 0) 94)
  rw [dcells_zero] at h2
  rw [begin_cells]
  go_wp2_with fail
  go_ret
  refine ⟨w1.heap.size, _, rfl, ⟨.slice none 0 0, [], Row.nil 5 1, rfl⟩, ?_⟩
  rw [show dcells (took []).1 (.slice none 0 0) (([] : List UInt8).length : Int) = _ from dcells_zero]
  exact h2

theorem len_any {W w : World} {I : Nat → Option Obj} {F L : List (Nat × Obj)} {g : Nat} {bs : List UInt8} (hd : Dig g bs L) (hst : St W w I (L ++ F)) :
    Calls Tryd.prog 38 #[.pointer (some ⟨g, 0, none⟩)] w fun e w' => e = .returned (.int .u64 bs.length) ∧ w = w' := by
  obtain ⟨rv, Lr, hr, rfl⟩ := hd
  have hs := took_state bs
  generalize (took bs).1 = l at *
  obtain ⟨s0, s1, s2, s3, s4, s5, s6, s7, rfl⟩ := eight l hs
  have q : w.cell? ⟨g, 9, none⟩ = some (.int .u64 (bs.length : Int)) := by
    rw [hst.cell (g := g) (cs := dcells [s0, s1, s2, s3, s4, s5, s6, s7] rv bs.length) (t := 94) (fr := (0, 0)) (by simp)]
    rfl
  clear hr hst
  generalize (bs.length : Int) = n at *
  go_enter Tryd.func38, Tryd.ntmps38
  go_wp2_with fail
  go_ret
  exact ⟨rfl, rfl⟩
end Go.Proofs.YtkpgliaahibjgaaDoor
