/- The document's Put: a rune's bytes. -/
import Derived.Test.YtjmdhljhlcbneaaDoorGlyphO
namespace Go.Proofs.YtjmdhljhlcbneaaDoor
set_option linter.unusedVariables false
set_option linter.unusedSimpArgs false
open Go.RowKit Go.Lib

theorem Src.new (w : World) (cs : Array Value) (t : TypeId) : Src (w.alloc (.cells cs t)) 1 (some ⟨w.heap.size, 0, none⟩) cs.size cs.toList := by
  refine ⟨by simp, fun j u hj => ⟨_, rfl, ?_⟩⟩
  rw [show (⟨w.heap.size, 0, none⟩ : Addr).add j = ⟨w.heap.size, j, none⟩ by unfold Addr.add; split <;> simp_all, cell_of_row _ w.heap.size j cs t (0, 0) (heap_alloc_new w _)]
  simpa using hj
theorem Src.new' (w : World) (cs : Array Value) (t : TypeId) {b : Nat} (hb : w.heap.size = b) (n : Nat) (hn : cs.size = n) : Src (w.alloc (.cells cs t)) 1 (some ⟨b, 0, none⟩) n cs.toList := by
  subst hb; subst hn; exact Src.new w cs t
theorem rune_bvals (r : Int) : (encodeRune r).map bval = runeCells r := by
  rw [← byteCells_encodeRune]
  rfl

set_option maxRecDepth 100000 in
set_option maxHeartbeats 2000000 in
theorem put_any {W w : World} {I : Nat → Option Obj} {L : List (Nat × Obj)} (n : Nat) (hn : n < 55296 ∨ (57344 ≤ n ∧ n ≤ 1114111)) (h : St W w I L) :
    Calls Tryd.prog 38 #[.int .i64 n] w fun e w' => e = .returned (.string ⟨(encodeRune (n : Int)).toArray⟩) ∧ St W w' I L := by
  obtain ⟨R, hR⟩ : ∃ R, encodeRune (n : Int) = R := ⟨_, rfl⟩
  rw [hR]
  have hbv := rune_bvals (n : Int)
  rw [hR] at hbv
  have hlen := runeCells_le (n : Int)
  rw [← hbv, List.length_map] at hlen
  have h2 := h.alloc (.cells #[] 5)
  have H2 := Lib.hid h2; have HL := Lib.hid hlen
  have hn1 : (n : Int) ≤ 1114111 := by omega
  clear h h2 hlen
  go_enter Tryd.func38, Tryd.ntmps38
  by_cases h1 : n < 128
  · have h1' : (n : Int) < 128 := by omega
    rw [runeCells, encodeRuneZ_one (by omega) (by omega)] at hbv
    have HBV := Lib.hid hbv
    clear hbv hn
    go_wp2_with (at_builtin; refine Hid.out ?_)
    refine Lib.hid ?_
    refine wpList_append_row0 (F := L) (L := [(w.heap.size, .cells #[] 5 (0, 0))]) rfl (.tmp 29) (.tmp 32) 22 rfl 5 (.int .u8 0) 1 1 Tryd.underlying22 (by kernel_rfl) rfl (by omega) rfl (Row.empty 5 1 w.heap.size) (St.alloc_ (by exact H2.out) _) rfl (Src.new' (w.alloc (.cells #[] 5)) #[.int .u8 ((n : Int))] 5 (by simp) _ rfl) (by intro u hu; simp at hu; subst hu; rfl) R.length (by have := congrArg List.length HBV.out; simp only [List.length_map] at this; rw [this]; rfl) (R.map bval) (by rw [HBV.out]; rfl) (by have := HL.out; unfold maxLen; omega) (by have := HL.out; omega) ?_
    intro A1 c1 w2 L1 hr1 h3 ho
    have hcv := conv_str (P := Tryd.prog) Tryd.underlying22 Tryd.underlying5 Tryd.underlying9 (c := c1) (Row.src hr1 (fun p hp => h3.own p (List.mem_append.2 (.inl hp))))
    have H3 := Lib.hid h3
    clear h3 hr1 ho
    go_wp2_with fail
    go_ret
    exact ⟨rfl, St.weaken H3.out⟩
  have h1' : ¬ (n : Int) < 128 := by omega
  by_cases h2 : n < 2048
  · have h2' : (n : Int) < 2048 := by omega
    rw [runeCells, encodeRuneZ_two (by omega) (by omega)] at hbv
    have HBV := Lib.hid hbv
    clear hbv hn
    go_wp2_with (at_builtin; refine Hid.out ?_)
    refine Lib.hid ?_
    refine wpList_append_row0 (F := L) (L := [(w.heap.size, .cells #[] 5 (0, 0))]) rfl (.tmp 37) (.tmp 46) 22 rfl 5 (.int .u8 0) 1 1 Tryd.underlying22 (by kernel_rfl) rfl (by omega) rfl (Row.empty 5 1 w.heap.size) (St.alloc_ (by exact H2.out) _) rfl (Src.new' (w.alloc (.cells #[] 5)) #[.int .u8 (192 + (n : Int) / 64), .int .u8 (128 + (n : Int) % 64)] 5 (by simp) _ rfl) (by intro u hu; simp at hu; rcases hu with rfl | rfl <;> rfl) R.length (by have := congrArg List.length HBV.out; simp only [List.length_map] at this; rw [this]; rfl) (R.map bval) (by rw [HBV.out]; rfl) (by have := HL.out; unfold maxLen; omega) (by have := HL.out; omega) ?_
    intro A1 c1 w2 L1 hr1 h3 ho
    have hcv := conv_str (P := Tryd.prog) Tryd.underlying22 Tryd.underlying5 Tryd.underlying9 (c := c1) (Row.src hr1 (fun p hp => h3.own p (List.mem_append.2 (.inl hp))))
    have H3 := Lib.hid h3
    clear h3 hr1 ho
    go_wp2_with fail
    go_ret
    exact ⟨rfl, St.weaken H3.out⟩
  have h2' : ¬ (n : Int) < 2048 := by omega
  by_cases h3 : n < 65536
  · have h3' : (n : Int) < 65536 := by omega
    rw [runeCells, encodeRuneZ_three (by omega)] at hbv
    have HBV := Lib.hid hbv
    clear hbv hn
    go_wp2_with (at_builtin; refine Hid.out ?_)
    refine Lib.hid ?_
    refine wpList_append_row0 (F := L) (L := [(w.heap.size, .cells #[] 5 (0, 0))]) rfl (.tmp 51) (.tmp 65) 22 rfl 5 (.int .u8 0) 1 1 Tryd.underlying22 (by kernel_rfl) rfl (by omega) rfl (Row.empty 5 1 w.heap.size) (St.alloc_ (by exact H2.out) _) rfl (Src.new' (w.alloc (.cells #[] 5)) #[.int .u8 (224 + (n : Int) / 4096), .int .u8 (128 + (n : Int) / 64 % 64), .int .u8 (128 + (n : Int) % 64)] 5 (by simp) _ rfl) (by intro u hu; simp at hu; rcases hu with rfl | rfl | rfl <;> rfl) R.length (by have := congrArg List.length HBV.out; simp only [List.length_map] at this; rw [this]; rfl) (R.map bval) (by rw [HBV.out]; rfl) (by have := HL.out; unfold maxLen; omega) (by have := HL.out; omega) ?_
    intro A1 c1 w2 L1 hr1 h3 ho
    have hcv := conv_str (P := Tryd.prog) Tryd.underlying22 Tryd.underlying5 Tryd.underlying9 (c := c1) (Row.src hr1 (fun p hp => h3.own p (List.mem_append.2 (.inl hp))))
    have H3 := Lib.hid h3
    clear h3 hr1 ho
    go_wp2_with fail
    go_ret
    exact ⟨rfl, St.weaken H3.out⟩
  have h3' : ¬ (n : Int) < 65536 := by omega
  rw [runeCells, encodeRuneZ_four (by omega) (by omega)] at hbv
  have HBV := Lib.hid hbv
  clear hbv hn
  go_wp2_with (at_builtin; refine Hid.out ?_)
  refine Lib.hid ?_
  refine wpList_append_row0 (F := L) (L := [(w.heap.size, .cells #[] 5 (0, 0))]) rfl (.tmp 5) (.tmp 24) 22 rfl 5 (.int .u8 0) 1 1 Tryd.underlying22 (by kernel_rfl) rfl (by omega) rfl (Row.empty 5 1 w.heap.size) (St.alloc_ (by exact H2.out) _) rfl (Src.new' (w.alloc (.cells #[] 5)) #[.int .u8 (240 + (n : Int) / 262144), .int .u8 (128 + (n : Int) / 4096 % 64), .int .u8 (128 + (n : Int) / 64 % 64), .int .u8 (128 + (n : Int) % 64)] 5 (by simp) _ rfl) (by intro u hu; simp at hu; rcases hu with rfl | rfl | rfl | rfl <;> rfl) R.length (by have := congrArg List.length HBV.out; simp only [List.length_map] at this; rw [this]; rfl) (R.map bval) (by rw [HBV.out]; rfl) (by have := HL.out; unfold maxLen; omega) (by have := HL.out; omega) ?_
  intro A1 c1 w2 L1 hr1 h3 ho
  have hcv := conv_str (P := Tryd.prog) Tryd.underlying22 Tryd.underlying5 Tryd.underlying9 (c := c1) (Row.src hr1 (fun p hp => h3.own p (List.mem_append.2 (.inl hp))))
  have H3 := Lib.hid h3
  clear h3 hr1 ho
  go_wp2_with fail
  go_ret
  exact ⟨rfl, St.weaken H3.out⟩
end Go.Proofs.YtjmdhljhlcbneaaDoor
