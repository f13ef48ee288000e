/- digest: the chapter's example. -/
import Derived.Test.YtjkepnddmpgljaaDigs
import Derived.Lib.SlBytesConst
namespace Go.Proofs.Ytjkepnddmpgljaa
set_option linter.unusedVariables false
set_option linter.unusedSimpArgs false
open Go.RowKit

theorem abc_text : textOf (hashOf [97, 98, 99]) = [98, 97, 55, 56, 49, 54, 98, 102, 56, 102, 48, 49, 99, 102, 101, 97, 52, 49, 52, 49, 52, 48, 100, 101, 53, 100, 97, 101, 50, 50, 50, 51, 98, 48, 48, 51, 54, 49, 97, 51, 57, 54, 49, 55, 55, 97, 57, 99, 98, 52, 49, 48, 102, 102, 54, 49, 102, 50, 48, 48, 49, 53, 97, 100] := by kernel_rfl

set_option maxRecDepth 10000 in
set_option maxHeartbeats 1000000 in
theorem digestAlive {W w : World} {I : Nat → Option Obj} {F : List (Nat × Obj)} (hst : St W w I F) :
    Calls Try.prog 10 #[] w fun e w' => e = .returned (.bool true) ∧ St W w' I F := by
  go_enter Try.func10, Try.ntmps10
  go_wp2_with fail
  refine (ds_new (Digs.nil hst)).mono ?_
  rintro e w1 ⟨g, rfl, h1⟩
  have hst1 := h1.frame
  have h2 := hst1.alloc (.cells #[.int .u8 97, .int .u8 98, .int .u8 99] 5 (3, 4))
  obtain ⟨J, hle, hJ, h3⟩ := h2.freeze
  have c1 := ds_all [⟨some ⟨w1.heap.size, 0, none⟩, 3, [97, 98, 99]⟩] (by
    intro p hp
    rw [List.mem_singleton] at hp
    subst hp
    exact part_lit hJ (by intro j u hj; simpa [bval] using hj)) (Digs.nil h3) (n0 := w1.heap.size + 1) (n := 1) (by simp) rfl (by show 3 ≤ 549755813888; omega) (by omega)
  have e1 : cat [⟨some ⟨w1.heap.size, 0, none⟩, 3, [97, 98, 99]⟩] = [97, 98, 99] := rfl
  rw [e1] at c1
  have c2 := fun w (h : St W w J F) => text_any (hashOf [97, 98, 99]) (hashOf_len _) h
  rw [abc_text] at c2
  have eHV : HV [97, 98, 99] = bcells (hashOf [97, 98, 99]) := rfl
  rw [← eHV] at c2
  generalize HV [97, 98, 99] = X at *
  simp only [Part.val, List.map_cons, List.map_nil, List.length_cons, List.length_nil, Nat.zero_add, Nat.reduceAdd] at c1
  have C1 := Lib.hid c1; have C2 := Lib.hid c2; have HLE := Lib.hid hle
  clear h1 hst hst1 h2 h3 c1 c2 hle hJ e1 eHV
  have kc := fun (w : World) (C : Array Value) (n c : Nat) => Lib.run_convert_bytes_const (P := Try.prog) w 22 5 C n c Try.underlying22 Try.underlying5
  go_wp2_with fail
  refine C1.out.mono ?_
  rintro e w3 ⟨rfl, h4⟩
  clear C1
  go_wp2_with fail
  refine (C2.out _ h4.frame).mono ?_
  rintro e w4 ⟨rfl, h5⟩
  have h6 := St.less HLE.out h5
  clear C2 HLE h4 h5
  go_wp2_with fail
  go_ret
  exact ⟨rfl, h6⟩
end Go.Proofs.Ytjkepnddmpgljaa
