/- The reference's Sum: its bytes. -/
import Derived.Test.YtnhlpiomfljlcaaDoorRefPP
namespace Go.Proofs.YtnhlpiomfljlcaaDoor
set_option linter.unusedVariables false
set_option linter.unusedSimpArgs false
open Go.RowKit

/-- A slice of bytes of ours. -/
def SSt (W w : World) (I : Nat → Option Obj) (s : Value) (m : List UInt8) (F : List (Nat × Obj)) : Prop :=
  ∃ A c L, s = .slice A m.length c ∧ Row 5 1 (.slice A m.length c) m.length (m.map bval) L ∧ St W w I (L ++ F)
def slLen : Value → Nat
  | .slice _ n _ => n
  | _ => 0
theorem one_bytes (l : List UInt8) : ∀ u ∈ l.map bval, u.oneCell' = true := by
  intro u hu
  obtain ⟨b, _, rfl⟩ := List.mem_map.1 hu
  rfl

/-- One byte more, at the operation. -/
theorem wpList_append_byte {W w : World} {I : Nat → Option Obj} {F L : List (Nat × Obj)} {ops : Array Oper} {rest : List Oper} {o : Oper} {a : Act} {Q : Exit → Act → World → Prop} (hgd : o.guard = none) (s x : Operand)
    (ho : o.op = .call { callee := .builtin .append, args := #[s, x], argTypes := #[27, 27] }) {A : Option Addr} {c g : Nat} {m : List UInt8} (hs : a.eval s = .slice A m.length c) (hr : Row 5 1 (.slice A m.length c) m.length (m.map bval) L)
    (hst : St W w I (L ++ F)) (hx : a.eval x = .slice (some ⟨g, 0, none⟩) 1 1) (b : UInt8) (hb : w.cell? ⟨g, 0, none⟩ = some (.int .u8 (b.toNat : Int))) (k : Nat) (hk : m.length + 1 = k) (hlen : k ≤ 1000000000)
    (h : ∀ A' c' w', SSt W w' I (.slice A' k c') (m ++ [b]) F → wpList Tryd.prog ops Q rest (a.put o.dst (.slice A' k c')) w') : wpList Tryd.prog ops Q (o :: rest) a w := by
  subst hk
  have hsrc : Src w 1 (some ⟨g, 0, none⟩) 1 [bval b] := by
    refine ⟨rfl, fun j u hj => ⟨_, rfl, ?_⟩⟩
    have hj0 : j = 0 := by
      have := (List.getElem?_eq_some_iff.1 hj).1
      simpa using this
    subst hj0
    simp at hj
    subst hj
    exact hb
  refine wpList_append_row (F := F) hgd s x _ ho 5 (.int .u8 0) 1 1 Tryd.underlying27 (by kernel_rfl) rfl (by omega) hs hr hst hx hsrc (by simp [bval, Value.oneCell']) (m.length + 1) rfl ((m ++ [b]).map bval) (by rw [List.map_append]; rfl) (by unfold maxLen; omega) (by omega) ?_
  intro A' c' w' L' hr' h'
  refine h A' c' w' ⟨A', c', L', ?_, ?_, h'⟩
  · rw [List.length_append]; rfl
  · rw [List.length_append]; exact hr'

set_option maxHeartbeats 1000000 in
theorem first_any {W w : World} {I : Nat → Option Obj} {F : List (Nat × Obj)} (hst : St W w I F) :
    Calls Tryd.prog 67 #[] w fun e w' => e = .returned (.agg (upart 8 hTab)) ∧ St W w' I F := by
  have h1 := hst.alloc_ (.cells (upart 8 hTab) 142)
  rw [ufirst_cells] at h1
  have H1 := Lib.hid h1; clear h1
  have e1 : ((w.alloc (.cells (upart 8 hTab) 142)).heap[w.heap.size]?) = some (.cells (upart 8 hTab) 142 (0, 0)) := heap_alloc_new w _
  rw [ufirst_cells] at e1
  have E1 := Lib.hid e1; clear e1
  go_enter Tryd.func67, Tryd.ntmps67
  go_wp2_with fail
  refine bodyPost_ret (results_cell_row rfl _ _ w.heap.size 142 _ (0, 0) _ rfl E1.out Tryd.underlying142 (by kernel_rfl) (by kernel_rfl)) rfl ?_
  rw [ufirst_cells]
  exact ⟨rfl, H1.out⟩

set_option maxRecDepth 100000 in
set_option maxHeartbeats 4000000 in
theorem rounds_any {W w : World} {I : Nat → Option Obj} {F : List (Nat × Obj)} (hst : St W w I F) :
    Calls Tryd.prog 68 #[] w fun e w' => e = .returned (.agg (upart 64 kTab)) ∧ St W w' I F := by
  have z1 : (upart 64 kTab).size = 64 := upart_size _ _ (by rw [kTab_len]; omega)
  have z0 : (upart 64 []).size = 64 := upart_size _ _ (by simp)
  have ew : setMany (upart 64 []) 0 (upart 64 kTab).toList = upart 64 kTab := by rw [setMany_whole _ _ (by simp [z0, z1])]
  have h1 := hst.alloc (.cells (upart 64 []) 144)
  have f1 : 0 + (upart 64 kTab).size ≤ (upart 64 []).size := by omega
  have i1 : (Tryd.prog.info? 144).map (·.size) = some (upart 64 kTab).size := by rw [z1]; kernel_rfl
  have o1 := upart_one 64 kTab
  rw [uzero64_cells, urounds_cells] at ew f1
  rw [uzero64_cells] at h1
  rw [urounds_cells] at i1 o1
  have H1 := Lib.hid h1; have F1 := Lib.hid f1; have I1 := Lib.hid i1; have O1 := Lib.hid o1; have EW := Lib.hid ew
  clear h1 f1 i1 o1 ew z0 z1 hst
  go_enter Tryd.func68, Tryd.ntmps68
  go_wp2_with (with_reducible refine wpList_store_st rfl 144 (.tmp 0) (.tmp 1) rfl (g := w.heap.size) (off := 0) _ rfl rfl H1.out F1.out I1.out O1.out ?_; intro w9 h9; refine Hid.out ?_)
  refine Lib.hid ?_
  rw [EW.out, ← urounds_cells] at h9
  clear H1 F1 O1 EW
  have i1 := I1.out
  rw [← urounds_cells] at i1
  clear I1
  obtain ⟨CS, hCS⟩ : ∃ CS, CS = upart 64 kTab := ⟨_, rfl⟩
  rw [← hCS] at h9 i1
  have HCS := Lib.hid hCS
  clear hCS
  go_wp2_with fail
  refine bodyPost_ret (results_cell_row rfl _ w9 w.heap.size 144 CS (0, 0) _ rfl (h9.own (w.heap.size, .cells CS 144 (0, 0)) (by simp)) Tryd.underlying144 (by kernel_rfl) i1) rfl ?_
  exact ⟨by rw [HCS.out], St.weaken (A := [_]) h9⟩
end Go.Proofs.YtnhlpiomfljlcaaDoor
