/- glyph.Fold: walks. -/
import Derived.Test.YtjmdhljhlcbneaaDoorGlyphA
import Derived.Test.YtjmdhljhlcbneaaDoorBld
namespace Go.Proofs.YtjmdhljhlcbneaaDoor
set_option linter.unusedVariables false
set_option linter.unusedSimpArgs false
open Go.RowKit Go.Lib

theorem Src.alloc_ (w : World) (xs : List Value) (t : TypeId) : Src (w.alloc (.cells xs.toArray t)) 1 (some ⟨w.heap.size, 0, none⟩) xs.length xs := by
  refine ⟨by simp, fun j u hj => ⟨_, rfl, ?_⟩⟩
  rw [show (⟨w.heap.size, 0, none⟩ : Addr).add j = ⟨w.heap.size, j, none⟩ by unfold Addr.add; split <;> simp_all]
  exact cell_new rfl (by simpa using hj)

set_option maxRecDepth 100000 in
set_option maxHeartbeats 1000000 in
theorem na_two {W w : World} {I : Nat → Option Obj} {F Lr : List (Nat × Obj)} {v : Value} {n : Nat} {xs : List Value} (r : Int) (h0 : 128 ≤ r) (h1 : r ≤ 2047) (hr : Row 5 1 v n xs Lr) (h : St W w I (Lr ++ F)) (hlen : n + 4 ≤ 140737488355328) :
    Calls Tryd.prog 47 #[v, .int .i32 r] w fun e w' => ∃ A c L', e = .returned (.slice A (n + 2) c) ∧ Row 5 1 (.slice A (n + 2) c) (n + 2) (xs ++ [.int .u8 (192 + r / 64), .int .u8 (128 + r % 64)]) L' ∧ (Off0 v → Off0 (.slice A (n + 2) c)) ∧ St W w' I (L' ++ F) := by
  have hsrc := Src.alloc_ w [.int .u8 (192 + r / 64), .int .u8 (128 + r % 64)] 5
  have h2 : St W (w.alloc (.cells #[.int .u8 (192 + r / 64), .int .u8 (128 + r % 64)] 5)) I (Lr ++ F) := St.alloc_ h _
  have hone : ∀ u ∈ ([.int .u8 (192 + r / 64), .int .u8 (128 + r % 64)] : List Value), u.oneCell' = true := by simp [Value.oneCell']
  obtain ⟨A0, c0, rfl⟩ := hr.shape
  go_enter Tryd.func47, Tryd.ntmps47
  go_wp2_with (at_builtin; refine Hid.out ?_)
  refine Lib.hid ?_
  refine wpList_append_row0 (F := F) rfl (.tmp 14) (.tmp 23) 22 rfl 5 (.int .u8 0) 1 1 Tryd.underlying22 (by kernel_rfl) rfl (by omega) rfl hr (by exact h2) rfl (by exact hsrc) hone (n + 2) rfl (xs ++ [.int .u8 (192 + r / 64), .int .u8 (128 + r % 64)]) rfl (by unfold maxLen; omega) (by omega) ?_
  intro A1 c1 w2 L1 hr1 h3 ho
  have H3 := Lib.hid h3; have HR := Lib.hid hr1; have HO := Lib.hid ho
  clear h3 hr1 ho h2 hsrc hr h hone
  go_wp2_with fail
  go_ret
  exact ⟨_, _, _, rfl, HR.out, HO.out, H3.out⟩

set_option maxRecDepth 100000 in
set_option maxHeartbeats 1000000 in
theorem na_three_lo {W w : World} {I : Nat → Option Obj} {F Lr : List (Nat × Obj)} {v : Value} {n : Nat} {xs : List Value} (r : Int) (h0 : 2048 ≤ r) (h1 : r < 55296) (hr : Row 5 1 v n xs Lr) (h : St W w I (Lr ++ F)) (hlen : n + 4 ≤ 140737488355328) :
    Calls Tryd.prog 47 #[v, .int .i32 r] w fun e w' => ∃ A c L', e = .returned (.slice A (n + 3) c) ∧ Row 5 1 (.slice A (n + 3) c) (n + 3) (xs ++ [.int .u8 (224 + r / 4096), .int .u8 (128 + r / 64 % 64), .int .u8 (128 + r % 64)]) L' ∧ (Off0 v → Off0 (.slice A (n + 3) c)) ∧ St W w' I (L' ++ F) := by
  have hsrc := Src.alloc_ w [.int .u8 (224 + r / 4096), .int .u8 (128 + r / 64 % 64), .int .u8 (128 + r % 64)] 5
  have h2 : St W (w.alloc (.cells #[.int .u8 (224 + r / 4096), .int .u8 (128 + r / 64 % 64), .int .u8 (128 + r % 64)] 5)) I (Lr ++ F) := St.alloc_ h _
  have hone : ∀ u ∈ ([.int .u8 (224 + r / 4096), .int .u8 (128 + r / 64 % 64), .int .u8 (128 + r % 64)] : List Value), u.oneCell' = true := by simp [Value.oneCell']
  obtain ⟨A0, c0, rfl⟩ := hr.shape
  go_enter Tryd.func47, Tryd.ntmps47
  go_wp2_with (at_builtin; refine Hid.out ?_)
  refine Lib.hid ?_
  refine wpList_append_row0 (F := F) rfl (.tmp 34) (.tmp 48) 22 rfl 5 (.int .u8 0) 1 1 Tryd.underlying22 (by kernel_rfl) rfl (by omega) rfl hr (by exact h2) rfl (by exact hsrc) hone (n + 3) rfl (xs ++ [.int .u8 (224 + r / 4096), .int .u8 (128 + r / 64 % 64), .int .u8 (128 + r % 64)]) rfl (by unfold maxLen; omega) (by omega) ?_
  intro A1 c1 w2 L1 hr1 h3 ho
  have H3 := Lib.hid h3; have HR := Lib.hid hr1; have HO := Lib.hid ho
  clear h3 hr1 ho h2 hsrc hr h hone
  go_wp2_with fail
  go_ret
  exact ⟨_, _, _, rfl, HR.out, HO.out, H3.out⟩

set_option maxRecDepth 100000 in
set_option maxHeartbeats 1000000 in
theorem na_three_hi {W w : World} {I : Nat → Option Obj} {F Lr : List (Nat × Obj)} {v : Value} {n : Nat} {xs : List Value} (r : Int) (h0 : 57343 < r) (h1 : r ≤ 65535) (hr : Row 5 1 v n xs Lr) (h : St W w I (Lr ++ F)) (hlen : n + 4 ≤ 140737488355328) :
    Calls Tryd.prog 47 #[v, .int .i32 r] w fun e w' => ∃ A c L', e = .returned (.slice A (n + 3) c) ∧ Row 5 1 (.slice A (n + 3) c) (n + 3) (xs ++ [.int .u8 (224 + r / 4096), .int .u8 (128 + r / 64 % 64), .int .u8 (128 + r % 64)]) L' ∧ (Off0 v → Off0 (.slice A (n + 3) c)) ∧ St W w' I (L' ++ F) := by
  have hsrc := Src.alloc_ w [.int .u8 (224 + r / 4096), .int .u8 (128 + r / 64 % 64), .int .u8 (128 + r % 64)] 5
  have h2 : St W (w.alloc (.cells #[.int .u8 (224 + r / 4096), .int .u8 (128 + r / 64 % 64), .int .u8 (128 + r % 64)] 5)) I (Lr ++ F) := St.alloc_ h _
  have hone : ∀ u ∈ ([.int .u8 (224 + r / 4096), .int .u8 (128 + r / 64 % 64), .int .u8 (128 + r % 64)] : List Value), u.oneCell' = true := by simp [Value.oneCell']
  obtain ⟨A0, c0, rfl⟩ := hr.shape
  go_enter Tryd.func47, Tryd.ntmps47
  go_wp2_with (at_builtin; refine Hid.out ?_)
  refine Lib.hid ?_
  refine wpList_append_row0 (F := F) rfl (.tmp 34) (.tmp 48) 22 rfl 5 (.int .u8 0) 1 1 Tryd.underlying22 (by kernel_rfl) rfl (by omega) rfl hr (by exact h2) rfl (by exact hsrc) hone (n + 3) rfl (xs ++ [.int .u8 (224 + r / 4096), .int .u8 (128 + r / 64 % 64), .int .u8 (128 + r % 64)]) rfl (by unfold maxLen; omega) (by omega) ?_
  intro A1 c1 w2 L1 hr1 h3 ho
  have H3 := Lib.hid h3; have HR := Lib.hid hr1; have HO := Lib.hid ho
  clear h3 hr1 ho h2 hsrc hr h hone
  go_wp2_with fail
  go_ret
  exact ⟨_, _, _, rfl, HR.out, HO.out, H3.out⟩

set_option maxRecDepth 100000 in
set_option maxHeartbeats 1000000 in
theorem na_four {W w : World} {I : Nat → Option Obj} {F Lr : List (Nat × Obj)} {v : Value} {n : Nat} {xs : List Value} (r : Int) (h0 : 65536 ≤ r) (h1 : r ≤ 1114111) (hr : Row 5 1 v n xs Lr) (h : St W w I (Lr ++ F)) (hlen : n + 4 ≤ 140737488355328) :
    Calls Tryd.prog 47 #[v, .int .i32 r] w fun e w' => ∃ A c L', e = .returned (.slice A (n + 4) c) ∧ Row 5 1 (.slice A (n + 4) c) (n + 4) (xs ++ [.int .u8 (240 + r / 262144), .int .u8 (128 + r / 4096 % 64), .int .u8 (128 + r / 64 % 64), .int .u8 (128 + r % 64)]) L' ∧ (Off0 v → Off0 (.slice A (n + 4) c)) ∧ St W w' I (L' ++ F) := by
  have hsrc := Src.alloc_ w [.int .u8 (240 + r / 262144), .int .u8 (128 + r / 4096 % 64), .int .u8 (128 + r / 64 % 64), .int .u8 (128 + r % 64)] 5
  have h2 : St W (w.alloc (.cells #[.int .u8 (240 + r / 262144), .int .u8 (128 + r / 4096 % 64), .int .u8 (128 + r / 64 % 64), .int .u8 (128 + r % 64)] 5)) I (Lr ++ F) := St.alloc_ h _
  have hone : ∀ u ∈ ([.int .u8 (240 + r / 262144), .int .u8 (128 + r / 4096 % 64), .int .u8 (128 + r / 64 % 64), .int .u8 (128 + r % 64)] : List Value), u.oneCell' = true := by simp [Value.oneCell']
  obtain ⟨A0, c0, rfl⟩ := hr.shape
  go_enter Tryd.func47, Tryd.ntmps47
  go_wp2_with (at_builtin; refine Hid.out ?_)
  refine Lib.hid ?_
  refine wpList_append_row0 (F := F) rfl (.tmp 57) (.tmp 76) 22 rfl 5 (.int .u8 0) 1 1 Tryd.underlying22 (by kernel_rfl) rfl (by omega) rfl hr (by exact h2) rfl (by exact hsrc) hone (n + 4) rfl (xs ++ [.int .u8 (240 + r / 262144), .int .u8 (128 + r / 4096 % 64), .int .u8 (128 + r / 64 % 64), .int .u8 (128 + r % 64)]) rfl (by unfold maxLen; omega) (by omega) ?_
  intro A1 c1 w2 L1 hr1 h3 ho
  have H3 := Lib.hid h3; have HR := Lib.hid hr1; have HO := Lib.hid ho
  clear h3 hr1 ho h2 hsrc hr h hone
  go_wp2_with fail
  go_ret
  exact ⟨_, _, _, rfl, HR.out, HO.out, H3.out⟩

set_option maxRecDepth 100000 in
set_option maxHeartbeats 1000000 in
theorem na_neg {W w : World} {I : Nat → Option Obj} {F Lr : List (Nat × Obj)} {v : Value} {n : Nat} {xs : List Value} (r : Int) (h0 : -2147483648 ≤ r) (h1 : r < 0) (hr : Row 5 1 v n xs Lr) (h : St W w I (Lr ++ F)) (hlen : n + 4 ≤ 140737488355328) :
    Calls Tryd.prog 47 #[v, .int .i32 r] w fun e w' => ∃ A c L', e = .returned (.slice A (n + 3) c) ∧ Row 5 1 (.slice A (n + 3) c) (n + 3) (xs ++ [.int .u8 (239), .int .u8 (191), .int .u8 (189)]) L' ∧ (Off0 v → Off0 (.slice A (n + 3) c)) ∧ St W w' I (L' ++ F) := by
  have hsrc := Src.alloc_ w [.int .u8 (239), .int .u8 (191), .int .u8 (189)] 5
  have h2 : St W (w.alloc (.cells #[.int .u8 (239), .int .u8 (191), .int .u8 (189)] 5)) I (Lr ++ F) := St.alloc_ h _
  have hone : ∀ u ∈ ([.int .u8 (239), .int .u8 (191), .int .u8 (189)] : List Value), u.oneCell' = true := by simp [Value.oneCell']
  obtain ⟨A0, c0, rfl⟩ := hr.shape
  go_enter Tryd.func47, Tryd.ntmps47
  go_wp2_with (at_builtin; refine Hid.out ?_)
  refine Lib.hid ?_
  refine wpList_append_row0 (F := F) rfl (.tmp 8) (.tmp 9) 22 rfl 5 (.int .u8 0) 1 1 Tryd.underlying22 (by kernel_rfl) rfl (by omega) rfl hr (by exact h2) rfl (by exact hsrc) hone (n + 3) rfl (xs ++ [.int .u8 (239), .int .u8 (191), .int .u8 (189)]) rfl (by unfold maxLen; omega) (by omega) ?_
  intro A1 c1 w2 L1 hr1 h3 ho
  have H3 := Lib.hid h3; have HR := Lib.hid hr1; have HO := Lib.hid ho
  clear h3 hr1 ho h2 hsrc hr h hone
  go_wp2_with fail
  go_ret
  exact ⟨_, _, _, rfl, HR.out, HO.out, H3.out⟩

set_option maxRecDepth 100000 in
set_option maxHeartbeats 1000000 in
theorem na_sur {W w : World} {I : Nat → Option Obj} {F Lr : List (Nat × Obj)} {v : Value} {n : Nat} {xs : List Value} (r : Int) (h0 : 55296 ≤ r) (h1 : r ≤ 57343) (hr : Row 5 1 v n xs Lr) (h : St W w I (Lr ++ F)) (hlen : n + 4 ≤ 140737488355328) :
    Calls Tryd.prog 47 #[v, .int .i32 r] w fun e w' => ∃ A c L', e = .returned (.slice A (n + 3) c) ∧ Row 5 1 (.slice A (n + 3) c) (n + 3) (xs ++ [.int .u8 (239), .int .u8 (191), .int .u8 (189)]) L' ∧ (Off0 v → Off0 (.slice A (n + 3) c)) ∧ St W w' I (L' ++ F) := by
  have hsrc := Src.alloc_ w [.int .u8 (239), .int .u8 (191), .int .u8 (189)] 5
  have h2 : St W (w.alloc (.cells #[.int .u8 (239), .int .u8 (191), .int .u8 (189)] 5)) I (Lr ++ F) := St.alloc_ h _
  have hone : ∀ u ∈ ([.int .u8 (239), .int .u8 (191), .int .u8 (189)] : List Value), u.oneCell' = true := by simp [Value.oneCell']
  obtain ⟨A0, c0, rfl⟩ := hr.shape
  go_enter Tryd.func47, Tryd.ntmps47
  go_wp2_with (at_builtin; refine Hid.out ?_)
  refine Lib.hid ?_
  refine wpList_append_row0 (F := F) rfl (.tmp 8) (.tmp 9) 22 rfl 5 (.int .u8 0) 1 1 Tryd.underlying22 (by kernel_rfl) rfl (by omega) rfl hr (by exact h2) rfl (by exact hsrc) hone (n + 3) rfl (xs ++ [.int .u8 (239), .int .u8 (191), .int .u8 (189)]) rfl (by unfold maxLen; omega) (by omega) ?_
  intro A1 c1 w2 L1 hr1 h3 ho
  have H3 := Lib.hid h3; have HR := Lib.hid hr1; have HO := Lib.hid ho
  clear h3 hr1 ho h2 hsrc hr h hone
  go_wp2_with fail
  go_ret
  exact ⟨_, _, _, rfl, HR.out, HO.out, H3.out⟩

set_option maxRecDepth 100000 in
set_option maxHeartbeats 1000000 in
theorem na_big {W w : World} {I : Nat → Option Obj} {F Lr : List (Nat × Obj)} {v : Value} {n : Nat} {xs : List Value} (r : Int) (h0 : 1114111 < r) (h1 : r ≤ 2147483647) (hr : Row 5 1 v n xs Lr) (h : St W w I (Lr ++ F)) (hlen : n + 4 ≤ 140737488355328) :
    Calls Tryd.prog 47 #[v, .int .i32 r] w fun e w' => ∃ A c L', e = .returned (.slice A (n + 3) c) ∧ Row 5 1 (.slice A (n + 3) c) (n + 3) (xs ++ [.int .u8 (239), .int .u8 (191), .int .u8 (189)]) L' ∧ (Off0 v → Off0 (.slice A (n + 3) c)) ∧ St W w' I (L' ++ F) := by
  have hsrc := Src.alloc_ w [.int .u8 (239), .int .u8 (191), .int .u8 (189)] 5
  have h2 : St W (w.alloc (.cells #[.int .u8 (239), .int .u8 (191), .int .u8 (189)] 5)) I (Lr ++ F) := St.alloc_ h _
  have hone : ∀ u ∈ ([.int .u8 (239), .int .u8 (191), .int .u8 (189)] : List Value), u.oneCell' = true := by simp [Value.oneCell']
  obtain ⟨A0, c0, rfl⟩ := hr.shape
  go_enter Tryd.func47, Tryd.ntmps47
  go_wp2_with (at_builtin; refine Hid.out ?_)
  refine Lib.hid ?_
  refine wpList_append_row0 (F := F) rfl (.tmp 8) (.tmp 9) 22 rfl 5 (.int .u8 0) 1 1 Tryd.underlying22 (by kernel_rfl) rfl (by omega) rfl hr (by exact h2) rfl (by exact hsrc) hone (n + 3) rfl (xs ++ [.int .u8 (239), .int .u8 (191), .int .u8 (189)]) rfl (by unfold maxLen; omega) (by omega) ?_
  intro A1 c1 w2 L1 hr1 h3 ho
  have H3 := Lib.hid h3; have HR := Lib.hid hr1; have HO := Lib.hid ho
  clear h3 hr1 ho h2 hsrc hr h hone
  go_wp2_with fail
  go_ret
  exact ⟨_, _, _, rfl, HR.out, HO.out, H3.out⟩

set_option maxRecDepth 100000 in
set_option maxHeartbeats 1000000 in
theorem ar_ascii {W w : World} {I : Nat → Option Obj} {F Lr : List (Nat × Obj)} {v : Value} {n : Nat} {xs : List Value} (r : Int) (h0 : 0 ≤ r) (h1 : r ≤ 127) (hr : Row 5 1 v n xs Lr) (h : St W w I (Lr ++ F)) (hlen : n + 4 ≤ 140737488355328) :
    Calls Tryd.prog 41 #[v, .int .i32 r] w fun e w' => ∃ A c L', e = .returned (.slice A (n + 1) c) ∧ Row 5 1 (.slice A (n + 1) c) (n + 1) (xs ++ [.int .u8 r]) L' ∧ (Off0 v → Off0 (.slice A (n + 1) c)) ∧ St W w' I (L' ++ F) := by
  have hsrc := Src.alloc_ w [.int .u8 r] 5
  have h2 : St W (w.alloc (.cells #[.int .u8 r] 5)) I (Lr ++ F) := St.alloc_ h _
  have hone : ∀ u ∈ ([.int .u8 r] : List Value), u.oneCell' = true := by simp [Value.oneCell']
  obtain ⟨A0, c0, rfl⟩ := hr.shape
  go_enter Tryd.func41, Tryd.ntmps41
  go_wp2_with (at_builtin; refine Hid.out ?_)
  refine Lib.hid ?_
  refine wpList_append_row0 (F := F) rfl (.tmp 8) (.tmp 11) 22 rfl 5 (.int .u8 0) 1 1 Tryd.underlying22 (by kernel_rfl) rfl (by omega) rfl hr (by exact h2) rfl (by exact hsrc) hone (n + 1) rfl (xs ++ [.int .u8 r]) rfl (by unfold maxLen; omega) (by omega) ?_
  intro A1 c1 w2 L1 hr1 h3 ho
  have H3 := Lib.hid h3; have HR := Lib.hid hr1; have HO := Lib.hid ho
  clear h3 hr1 ho h2 hsrc hr h hone
  go_wp2_with fail
  go_ret
  exact ⟨_, _, _, rfl, HR.out, HO.out, H3.out⟩


theorem na_any {W w : World} {I : Nat → Option Obj} {F Lr : List (Nat × Obj)} {v : Value} {n : Nat} {xs : List Value} (r : Int) (hr0 : -2147483648 ≤ r) (hr1 : r ≤ 2147483647) (hna : r < 0 ∨ 128 ≤ r) (hr : Row 5 1 v n xs Lr) (h : St W w I (Lr ++ F)) (hlen : n + 4 ≤ 140737488355328) :
    Calls Tryd.prog 47 #[v, .int .i32 r] w fun e w' => ∃ A c L', e = .returned (.slice A (n + (Lib.runeCells r).length) c) ∧ Row 5 1 (.slice A (n + (Lib.runeCells r).length) c) (n + (Lib.runeCells r).length) (xs ++ Lib.runeCells r) L' ∧ (Off0 v → Off0 (.slice A (n + (Lib.runeCells r).length) c)) ∧ St W w' I (L' ++ F) := by
  by_cases c0 : r < 0
  · rw [show Lib.runeCells r = [.int .u8 239, .int .u8 191, .int .u8 189] by simp [Lib.runeCells, Lib.encodeRuneZ_bad (Or.inl c0)]]
    exact na_neg r hr0 c0 hr h hlen
  by_cases c1 : r ≤ 2047
  · rw [show Lib.runeCells r = [.int .u8 (192 + r / 64), .int .u8 (128 + r % 64)] by simp [Lib.runeCells, Lib.encodeRuneZ_two (by omega) c1]]
    exact na_two r (by omega) c1 hr h hlen
  by_cases c2 : r < 55296
  · rw [show Lib.runeCells r = [.int .u8 (224 + r / 4096), .int .u8 (128 + r / 64 % 64), .int .u8 (128 + r % 64)] by simp [Lib.runeCells, Lib.encodeRuneZ_three (Or.inl ⟨by omega, c2⟩)]]
    exact na_three_lo r (by omega) c2 hr h hlen
  by_cases c3 : r ≤ 57343
  · rw [show Lib.runeCells r = [.int .u8 239, .int .u8 191, .int .u8 189] by simp [Lib.runeCells, Lib.encodeRuneZ_bad (Or.inr (Or.inl ⟨by omega, c3⟩))]]
    exact na_sur r (by omega) c3 hr h hlen
  by_cases c4 : r ≤ 65535
  · rw [show Lib.runeCells r = [.int .u8 (224 + r / 4096), .int .u8 (128 + r / 64 % 64), .int .u8 (128 + r % 64)] by simp [Lib.runeCells, Lib.encodeRuneZ_three (Or.inr ⟨by omega, c4⟩)]]
    exact na_three_hi r (by omega) c4 hr h hlen
  by_cases c5 : r ≤ 1114111
  · rw [show Lib.runeCells r = [.int .u8 (240 + r / 262144), .int .u8 (128 + r / 4096 % 64), .int .u8 (128 + r / 64 % 64), .int .u8 (128 + r % 64)] by simp [Lib.runeCells, Lib.encodeRuneZ_four (by omega) c5]]
    exact na_four r (by omega) c5 hr h hlen
  · rw [show Lib.runeCells r = [.int .u8 239, .int .u8 191, .int .u8 189] by simp [Lib.runeCells, Lib.encodeRuneZ_bad (r := r) (Or.inr (Or.inr (by omega)))]]
    exact na_big r (by omega) hr1 hr h hlen

set_option maxRecDepth 100000 in
set_option maxHeartbeats 1000000 in
theorem appendRune {W w : World} {I : Nat → Option Obj} {F Lr : List (Nat × Obj)} {v : Value} {n : Nat} {xs : List Value} (r : Int) (hr0 : -2147483648 ≤ r) (hr1 : r ≤ 2147483647) (hr : Row 5 1 v n xs Lr) (h : St W w I (Lr ++ F)) (hlen : n + 4 ≤ 140737488355328) :
    Calls Tryd.prog 41 #[v, .int .i32 r] w fun e w' => ∃ A c L', e = .returned (.slice A (n + (Lib.runeCells r).length) c) ∧ Row 5 1 (.slice A (n + (Lib.runeCells r).length) c) (n + (Lib.runeCells r).length) (xs ++ Lib.runeCells r) L' ∧ (Off0 v → Off0 (.slice A (n + (Lib.runeCells r).length) c)) ∧ St W w' I (L' ++ F) := by
  by_cases c : 0 ≤ r ∧ r ≤ 127
  · rw [show Lib.runeCells r = [.int .u8 r] by simp [Lib.runeCells, Lib.encodeRuneZ_one c.1 c.2]]
    exact ar_ascii r c.1 c.2 hr h hlen
  · have hc : r < 0 ∨ 128 ≤ r := by omega
    have cN := na_any r hr0 hr1 hc hr h hlen
    obtain ⟨A0, c0, rfl⟩ := hr.shape
    generalize (Lib.runeCells r).length = k at *
    generalize Lib.runeCells r = rc at *
    have CN := Lib.hid cN
    clear cN hr h
    rcases hc with hc | hc
    all_goals
      go_enter Tryd.func41, Tryd.ntmps41
      go_wp2_with fail
      refine CN.out.mono ?_
      rintro e w1 ⟨A, c, L', rfl, h1, h2, h3⟩
      have H1 := Lib.hid h1; have H2 := Lib.hid h2; have H3 := Lib.hid h3
      clear h1 h2 h3 CN
      go_wp2_with fail
      go_ret
      exact ⟨_, _, _, rfl, H1.out, H2.out, H3.out⟩
end Go.Proofs.YtjmdhljhlcbneaaDoor
