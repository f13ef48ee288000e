/- glyph.Fold: walks. glyph.Fold: the walk. -/
import Derived.Test.YtnhlpiomfljlcaaDoorGlyPA
import Derived.Test.YtnhlpiomfljlcaaDoorBld
import Derived.Lib.UnsafeStr
namespace Go.Proofs.YtnhlpiomfljlcaaDoor
section
set_option linter.unusedVariables false
set_option linter.unusedSimpArgs false
open Go.RowKit Go.Lib

theorem Src.alloc_ (w : World) (xs : List Value) (t : TypeId) : Src (w.alloc (.cells xs.toArray t)) 1 (some ⟨w.heap.size, 0, none⟩) xs.length xs := by
  refine ⟨by simp, fun j u hj => ⟨_, rfl, ?_⟩⟩
  rw [show (⟨w.heap.size, 0, none⟩ : Addr).add j = ⟨w.heap.size, j, none⟩ by unfold Addr.add; split <;> simp_all]
  exact cell_new rfl (by simpa using hj)

set_option maxRecDepth 100000 in
set_option maxHeartbeats 1000000 in
theorem na_two {W w : World} {I : Nat → Option Obj} {F Lr : List (Nat × Obj)} {v : Value} {n : Nat} {xs : List Value} (r : Int) (h0 : 128 ≤ r) (h1 : r ≤ 2047) (hr : Row 5 1 v n xs Lr) (h : St W w I (Lr ++ F)) (hlen : n + 4 ≤ 140737488355328) :
    Calls Tryd.prog 87 #[v, .int .i32 r] w fun e w' => ∃ A c L', e = .returned (.slice A (n + 2) c) ∧ Row 5 1 (.slice A (n + 2) c) (n + 2) (xs ++ [.int .u8 (192 + r / 64), .int .u8 (128 + r % 64)]) L' ∧ (Off0 v → Off0 (.slice A (n + 2) c)) ∧ St W w' I (L' ++ F) := by
  have hsrc := Src.alloc_ w [.int .u8 (192 + r / 64), .int .u8 (128 + r % 64)] 5
  have h2 : St W (w.alloc (.cells #[.int .u8 (192 + r / 64), .int .u8 (128 + r % 64)] 5)) I (Lr ++ F) := St.alloc_ h _
  have hone : ∀ u ∈ ([.int .u8 (192 + r / 64), .int .u8 (128 + r % 64)] : List Value), u.oneCell' = true := by simp [Value.oneCell']
  obtain ⟨A0, c0, rfl⟩ := hr.shape
  go_enter Tryd.func87, Tryd.ntmps87
  go_wp2_with (at_builtin; refine Hid.out ?_)
  refine Lib.hid ?_
  refine wpList_append_row0 (F := F) rfl (.tmp 14) (.tmp 23) 27 rfl 5 (.int .u8 0) 1 1 Tryd.underlying27 (by kernel_rfl) rfl (by omega) rfl hr (by exact h2) rfl (by exact hsrc) hone (n + 2) rfl (xs ++ [.int .u8 (192 + r / 64), .int .u8 (128 + r % 64)]) rfl (by unfold maxLen; omega) (by omega) ?_
  intro A1 c1 w2 L1 hr1 h3 ho
  have H3 := Lib.hid h3; have HR := Lib.hid hr1; have HO := Lib.hid ho
  clear h3 hr1 ho h2 hsrc hr h hone
  go_wp2_with fail
  go_ret
  exact ⟨_, _, _, rfl, HR.out, HO.out, H3.out⟩

set_option maxRecDepth 100000 in
set_option maxHeartbeats 1000000 in
theorem na_three_lo {W w : World} {I : Nat → Option Obj} {F Lr : List (Nat × Obj)} {v : Value} {n : Nat} {xs : List Value} (r : Int) (h0 : 2048 ≤ r) (h1 : r < 55296) (hr : Row 5 1 v n xs Lr) (h : St W w I (Lr ++ F)) (hlen : n + 4 ≤ 140737488355328) :
    Calls Tryd.prog 87 #[v, .int .i32 r] w fun e w' => ∃ A c L', e = .returned (.slice A (n + 3) c) ∧ Row 5 1 (.slice A (n + 3) c) (n + 3) (xs ++ [.int .u8 (224 + r / 4096), .int .u8 (128 + r / 64 % 64), .int .u8 (128 + r % 64)]) L' ∧ (Off0 v → Off0 (.slice A (n + 3) c)) ∧ St W w' I (L' ++ F) := by
  have hsrc := Src.alloc_ w [.int .u8 (224 + r / 4096), .int .u8 (128 + r / 64 % 64), .int .u8 (128 + r % 64)] 5
  have h2 : St W (w.alloc (.cells #[.int .u8 (224 + r / 4096), .int .u8 (128 + r / 64 % 64), .int .u8 (128 + r % 64)] 5)) I (Lr ++ F) := St.alloc_ h _
  have hone : ∀ u ∈ ([.int .u8 (224 + r / 4096), .int .u8 (128 + r / 64 % 64), .int .u8 (128 + r % 64)] : List Value), u.oneCell' = true := by simp [Value.oneCell']
  obtain ⟨A0, c0, rfl⟩ := hr.shape
  go_enter Tryd.func87, Tryd.ntmps87
  go_wp2_with (at_builtin; refine Hid.out ?_)
  refine Lib.hid ?_
  refine wpList_append_row0 (F := F) rfl (.tmp 34) (.tmp 48) 27 rfl 5 (.int .u8 0) 1 1 Tryd.underlying27 (by kernel_rfl) rfl (by omega) rfl hr (by exact h2) rfl (by exact hsrc) hone (n + 3) rfl (xs ++ [.int .u8 (224 + r / 4096), .int .u8 (128 + r / 64 % 64), .int .u8 (128 + r % 64)]) rfl (by unfold maxLen; omega) (by omega) ?_
  intro A1 c1 w2 L1 hr1 h3 ho
  have H3 := Lib.hid h3; have HR := Lib.hid hr1; have HO := Lib.hid ho
  clear h3 hr1 ho h2 hsrc hr h hone
  go_wp2_with fail
  go_ret
  exact ⟨_, _, _, rfl, HR.out, HO.out, H3.out⟩

set_option maxRecDepth 100000 in
set_option maxHeartbeats 1000000 in
theorem na_three_hi {W w : World} {I : Nat → Option Obj} {F Lr : List (Nat × Obj)} {v : Value} {n : Nat} {xs : List Value} (r : Int) (h0 : 57343 < r) (h1 : r ≤ 65535) (hr : Row 5 1 v n xs Lr) (h : St W w I (Lr ++ F)) (hlen : n + 4 ≤ 140737488355328) :
    Calls Tryd.prog 87 #[v, .int .i32 r] w fun e w' => ∃ A c L', e = .returned (.slice A (n + 3) c) ∧ Row 5 1 (.slice A (n + 3) c) (n + 3) (xs ++ [.int .u8 (224 + r / 4096), .int .u8 (128 + r / 64 % 64), .int .u8 (128 + r % 64)]) L' ∧ (Off0 v → Off0 (.slice A (n + 3) c)) ∧ St W w' I (L' ++ F) := by
  have hsrc := Src.alloc_ w [.int .u8 (224 + r / 4096), .int .u8 (128 + r / 64 % 64), .int .u8 (128 + r % 64)] 5
  have h2 : St W (w.alloc (.cells #[.int .u8 (224 + r / 4096), .int .u8 (128 + r / 64 % 64), .int .u8 (128 + r % 64)] 5)) I (Lr ++ F) := St.alloc_ h _
  have hone : ∀ u ∈ ([.int .u8 (224 + r / 4096), .int .u8 (128 + r / 64 % 64), .int .u8 (128 + r % 64)] : List Value), u.oneCell' = true := by simp [Value.oneCell']
  obtain ⟨A0, c0, rfl⟩ := hr.shape
  go_enter Tryd.func87, Tryd.ntmps87
  go_wp2_with (at_builtin; refine Hid.out ?_)
  refine Lib.hid ?_
  refine wpList_append_row0 (F := F) rfl (.tmp 34) (.tmp 48) 27 rfl 5 (.int .u8 0) 1 1 Tryd.underlying27 (by kernel_rfl) rfl (by omega) rfl hr (by exact h2) rfl (by exact hsrc) hone (n + 3) rfl (xs ++ [.int .u8 (224 + r / 4096), .int .u8 (128 + r / 64 % 64), .int .u8 (128 + r % 64)]) rfl (by unfold maxLen; omega) (by omega) ?_
  intro A1 c1 w2 L1 hr1 h3 ho
  have H3 := Lib.hid h3; have HR := Lib.hid hr1; have HO := Lib.hid ho
  clear h3 hr1 ho h2 hsrc hr h hone
  go_wp2_with fail
  go_ret
  exact ⟨_, _, _, rfl, HR.out, HO.out, H3.out⟩

set_option maxRecDepth 100000 in
set_option maxHeartbeats 1000000 in
theorem na_four {W w : World} {I : Nat → Option Obj} {F Lr : List (Nat × Obj)} {v : Value} {n : Nat} {xs : List Value} (r : Int) (h0 : 65536 ≤ r) (h1 : r ≤ 1114111) (hr : Row 5 1 v n xs Lr) (h : St W w I (Lr ++ F)) (hlen : n + 4 ≤ 140737488355328) :
    Calls Tryd.prog 87 #[v, .int .i32 r] w fun e w' => ∃ A c L', e = .returned (.slice A (n + 4) c) ∧ Row 5 1 (.slice A (n + 4) c) (n + 4) (xs ++ [.int .u8 (240 + r / 262144), .int .u8 (128 + r / 4096 % 64), .int .u8 (128 + r / 64 % 64), .int .u8 (128 + r % 64)]) L' ∧ (Off0 v → Off0 (.slice A (n + 4) c)) ∧ St W w' I (L' ++ F) := by
  have hsrc := Src.alloc_ w [.int .u8 (240 + r / 262144), .int .u8 (128 + r / 4096 % 64), .int .u8 (128 + r / 64 % 64), .int .u8 (128 + r % 64)] 5
  have h2 : St W (w.alloc (.cells #[.int .u8 (240 + r / 262144), .int .u8 (128 + r / 4096 % 64), .int .u8 (128 + r / 64 % 64), .int .u8 (128 + r % 64)] 5)) I (Lr ++ F) := St.alloc_ h _
  have hone : ∀ u ∈ ([.int .u8 (240 + r / 262144), .int .u8 (128 + r / 4096 % 64), .int .u8 (128 + r / 64 % 64), .int .u8 (128 + r % 64)] : List Value), u.oneCell' = true := by simp [Value.oneCell']
  obtain ⟨A0, c0, rfl⟩ := hr.shape
  go_enter Tryd.func87, Tryd.ntmps87
  go_wp2_with (at_builtin; refine Hid.out ?_)
  refine Lib.hid ?_
  refine wpList_append_row0 (F := F) rfl (.tmp 57) (.tmp 76) 27 rfl 5 (.int .u8 0) 1 1 Tryd.underlying27 (by kernel_rfl) rfl (by omega) rfl hr (by exact h2) rfl (by exact hsrc) hone (n + 4) rfl (xs ++ [.int .u8 (240 + r / 262144), .int .u8 (128 + r / 4096 % 64), .int .u8 (128 + r / 64 % 64), .int .u8 (128 + r % 64)]) rfl (by unfold maxLen; omega) (by omega) ?_
  intro A1 c1 w2 L1 hr1 h3 ho
  have H3 := Lib.hid h3; have HR := Lib.hid hr1; have HO := Lib.hid ho
  clear h3 hr1 ho h2 hsrc hr h hone
  go_wp2_with fail
  go_ret
  exact ⟨_, _, _, rfl, HR.out, HO.out, H3.out⟩

set_option maxRecDepth 100000 in
set_option maxHeartbeats 1000000 in
theorem na_neg {W w : World} {I : Nat → Option Obj} {F Lr : List (Nat × Obj)} {v : Value} {n : Nat} {xs : List Value} (r : Int) (h0 : -2147483648 ≤ r) (h1 : r < 0) (hr : Row 5 1 v n xs Lr) (h : St W w I (Lr ++ F)) (hlen : n + 4 ≤ 140737488355328) :
    Calls Tryd.prog 87 #[v, .int .i32 r] w fun e w' => ∃ A c L', e = .returned (.slice A (n + 3) c) ∧ Row 5 1 (.slice A (n + 3) c) (n + 3) (xs ++ [.int .u8 (239), .int .u8 (191), .int .u8 (189)]) L' ∧ (Off0 v → Off0 (.slice A (n + 3) c)) ∧ St W w' I (L' ++ F) := by
  have hsrc := Src.alloc_ w [.int .u8 (239), .int .u8 (191), .int .u8 (189)] 5
  have h2 : St W (w.alloc (.cells #[.int .u8 (239), .int .u8 (191), .int .u8 (189)] 5)) I (Lr ++ F) := St.alloc_ h _
  have hone : ∀ u ∈ ([.int .u8 (239), .int .u8 (191), .int .u8 (189)] : List Value), u.oneCell' = true := by simp [Value.oneCell']
  obtain ⟨A0, c0, rfl⟩ := hr.shape
  go_enter Tryd.func87, Tryd.ntmps87
  go_wp2_with (at_builtin; refine Hid.out ?_)
  refine Lib.hid ?_
  refine wpList_append_row0 (F := F) rfl (.tmp 8) (.tmp 9) 27 rfl 5 (.int .u8 0) 1 1 Tryd.underlying27 (by kernel_rfl) rfl (by omega) rfl hr (by exact h2) rfl (by exact hsrc) hone (n + 3) rfl (xs ++ [.int .u8 (239), .int .u8 (191), .int .u8 (189)]) rfl (by unfold maxLen; omega) (by omega) ?_
  intro A1 c1 w2 L1 hr1 h3 ho
  have H3 := Lib.hid h3; have HR := Lib.hid hr1; have HO := Lib.hid ho
  clear h3 hr1 ho h2 hsrc hr h hone
  go_wp2_with fail
  go_ret
  exact ⟨_, _, _, rfl, HR.out, HO.out, H3.out⟩

set_option maxRecDepth 100000 in
set_option maxHeartbeats 1000000 in
theorem na_sur {W w : World} {I : Nat → Option Obj} {F Lr : List (Nat × Obj)} {v : Value} {n : Nat} {xs : List Value} (r : Int) (h0 : 55296 ≤ r) (h1 : r ≤ 57343) (hr : Row 5 1 v n xs Lr) (h : St W w I (Lr ++ F)) (hlen : n + 4 ≤ 140737488355328) :
    Calls Tryd.prog 87 #[v, .int .i32 r] w fun e w' => ∃ A c L', e = .returned (.slice A (n + 3) c) ∧ Row 5 1 (.slice A (n + 3) c) (n + 3) (xs ++ [.int .u8 (239), .int .u8 (191), .int .u8 (189)]) L' ∧ (Off0 v → Off0 (.slice A (n + 3) c)) ∧ St W w' I (L' ++ F) := by
  have hsrc := Src.alloc_ w [.int .u8 (239), .int .u8 (191), .int .u8 (189)] 5
  have h2 : St W (w.alloc (.cells #[.int .u8 (239), .int .u8 (191), .int .u8 (189)] 5)) I (Lr ++ F) := St.alloc_ h _
  have hone : ∀ u ∈ ([.int .u8 (239), .int .u8 (191), .int .u8 (189)] : List Value), u.oneCell' = true := by simp [Value.oneCell']
  obtain ⟨A0, c0, rfl⟩ := hr.shape
  go_enter Tryd.func87, Tryd.ntmps87
  go_wp2_with (at_builtin; refine Hid.out ?_)
  refine Lib.hid ?_
  refine wpList_append_row0 (F := F) rfl (.tmp 8) (.tmp 9) 27 rfl 5 (.int .u8 0) 1 1 Tryd.underlying27 (by kernel_rfl) rfl (by omega) rfl hr (by exact h2) rfl (by exact hsrc) hone (n + 3) rfl (xs ++ [.int .u8 (239), .int .u8 (191), .int .u8 (189)]) rfl (by unfold maxLen; omega) (by omega) ?_
  intro A1 c1 w2 L1 hr1 h3 ho
  have H3 := Lib.hid h3; have HR := Lib.hid hr1; have HO := Lib.hid ho
  clear h3 hr1 ho h2 hsrc hr h hone
  go_wp2_with fail
  go_ret
  exact ⟨_, _, _, rfl, HR.out, HO.out, H3.out⟩

set_option maxRecDepth 100000 in
set_option maxHeartbeats 1000000 in
theorem na_big {W w : World} {I : Nat → Option Obj} {F Lr : List (Nat × Obj)} {v : Value} {n : Nat} {xs : List Value} (r : Int) (h0 : 1114111 < r) (h1 : r ≤ 2147483647) (hr : Row 5 1 v n xs Lr) (h : St W w I (Lr ++ F)) (hlen : n + 4 ≤ 140737488355328) :
    Calls Tryd.prog 87 #[v, .int .i32 r] w fun e w' => ∃ A c L', e = .returned (.slice A (n + 3) c) ∧ Row 5 1 (.slice A (n + 3) c) (n + 3) (xs ++ [.int .u8 (239), .int .u8 (191), .int .u8 (189)]) L' ∧ (Off0 v → Off0 (.slice A (n + 3) c)) ∧ St W w' I (L' ++ F) := by
  have hsrc := Src.alloc_ w [.int .u8 (239), .int .u8 (191), .int .u8 (189)] 5
  have h2 : St W (w.alloc (.cells #[.int .u8 (239), .int .u8 (191), .int .u8 (189)] 5)) I (Lr ++ F) := St.alloc_ h _
  have hone : ∀ u ∈ ([.int .u8 (239), .int .u8 (191), .int .u8 (189)] : List Value), u.oneCell' = true := by simp [Value.oneCell']
  obtain ⟨A0, c0, rfl⟩ := hr.shape
  go_enter Tryd.func87, Tryd.ntmps87
  go_wp2_with (at_builtin; refine Hid.out ?_)
  refine Lib.hid ?_
  refine wpList_append_row0 (F := F) rfl (.tmp 8) (.tmp 9) 27 rfl 5 (.int .u8 0) 1 1 Tryd.underlying27 (by kernel_rfl) rfl (by omega) rfl hr (by exact h2) rfl (by exact hsrc) hone (n + 3) rfl (xs ++ [.int .u8 (239), .int .u8 (191), .int .u8 (189)]) rfl (by unfold maxLen; omega) (by omega) ?_
  intro A1 c1 w2 L1 hr1 h3 ho
  have H3 := Lib.hid h3; have HR := Lib.hid hr1; have HO := Lib.hid ho
  clear h3 hr1 ho h2 hsrc hr h hone
  go_wp2_with fail
  go_ret
  exact ⟨_, _, _, rfl, HR.out, HO.out, H3.out⟩

set_option maxRecDepth 100000 in
set_option maxHeartbeats 1000000 in
theorem ar_ascii {W w : World} {I : Nat → Option Obj} {F Lr : List (Nat × Obj)} {v : Value} {n : Nat} {xs : List Value} (r : Int) (h0 : 0 ≤ r) (h1 : r ≤ 127) (hr : Row 5 1 v n xs Lr) (h : St W w I (Lr ++ F)) (hlen : n + 4 ≤ 140737488355328) :
    Calls Tryd.prog 77 #[v, .int .i32 r] w fun e w' => ∃ A c L', e = .returned (.slice A (n + 1) c) ∧ Row 5 1 (.slice A (n + 1) c) (n + 1) (xs ++ [.int .u8 r]) L' ∧ (Off0 v → Off0 (.slice A (n + 1) c)) ∧ St W w' I (L' ++ F) := by
  have hsrc := Src.alloc_ w [.int .u8 r] 5
  have h2 : St W (w.alloc (.cells #[.int .u8 r] 5)) I (Lr ++ F) := St.alloc_ h _
  have hone : ∀ u ∈ ([.int .u8 r] : List Value), u.oneCell' = true := by simp [Value.oneCell']
  obtain ⟨A0, c0, rfl⟩ := hr.shape
  go_enter Tryd.func77, Tryd.ntmps77
  go_wp2_with (at_builtin; refine Hid.out ?_)
  refine Lib.hid ?_
  refine wpList_append_row0 (F := F) rfl (.tmp 8) (.tmp 11) 27 rfl 5 (.int .u8 0) 1 1 Tryd.underlying27 (by kernel_rfl) rfl (by omega) rfl hr (by exact h2) rfl (by exact hsrc) hone (n + 1) rfl (xs ++ [.int .u8 r]) rfl (by unfold maxLen; omega) (by omega) ?_
  intro A1 c1 w2 L1 hr1 h3 ho
  have H3 := Lib.hid h3; have HR := Lib.hid hr1; have HO := Lib.hid ho
  clear h3 hr1 ho h2 hsrc hr h hone
  go_wp2_with fail
  go_ret
  exact ⟨_, _, _, rfl, HR.out, HO.out, H3.out⟩


theorem na_any {W w : World} {I : Nat → Option Obj} {F Lr : List (Nat × Obj)} {v : Value} {n : Nat} {xs : List Value} (r : Int) (hr0 : -2147483648 ≤ r) (hr1 : r ≤ 2147483647) (hna : r < 0 ∨ 128 ≤ r) (hr : Row 5 1 v n xs Lr) (h : St W w I (Lr ++ F)) (hlen : n + 4 ≤ 140737488355328) :
    Calls Tryd.prog 87 #[v, .int .i32 r] w fun e w' => ∃ A c L', e = .returned (.slice A (n + (Lib.runeCells r).length) c) ∧ Row 5 1 (.slice A (n + (Lib.runeCells r).length) c) (n + (Lib.runeCells r).length) (xs ++ Lib.runeCells r) L' ∧ (Off0 v → Off0 (.slice A (n + (Lib.runeCells r).length) c)) ∧ St W w' I (L' ++ F) := by
  by_cases c0 : r < 0
  · rw [show Lib.runeCells r = [.int .u8 239, .int .u8 191, .int .u8 189] by simp [Lib.runeCells, Lib.encodeRuneZ_bad (Or.inl c0)]]
    exact na_neg r hr0 c0 hr h hlen
  by_cases c1 : r ≤ 2047
  · rw [show Lib.runeCells r = [.int .u8 (192 + r / 64), .int .u8 (128 + r % 64)] by simp [Lib.runeCells, Lib.encodeRuneZ_two (by omega) c1]]
    exact na_two r (by omega) c1 hr h hlen
  by_cases c2 : r < 55296
  · rw [show Lib.runeCells r = [.int .u8 (224 + r / 4096), .int .u8 (128 + r / 64 % 64), .int .u8 (128 + r % 64)] by simp [Lib.runeCells, Lib.encodeRuneZ_three (Or.inl ⟨by omega, c2⟩)]]
    exact na_three_lo r (by omega) c2 hr h hlen
  by_cases c3 : r ≤ 57343
  · rw [show Lib.runeCells r = [.int .u8 239, .int .u8 191, .int .u8 189] by simp [Lib.runeCells, Lib.encodeRuneZ_bad (Or.inr (Or.inl ⟨by omega, c3⟩))]]
    exact na_sur r (by omega) c3 hr h hlen
  by_cases c4 : r ≤ 65535
  · rw [show Lib.runeCells r = [.int .u8 (224 + r / 4096), .int .u8 (128 + r / 64 % 64), .int .u8 (128 + r % 64)] by simp [Lib.runeCells, Lib.encodeRuneZ_three (Or.inr ⟨by omega, c4⟩)]]
    exact na_three_hi r (by omega) c4 hr h hlen
  by_cases c5 : r ≤ 1114111
  · rw [show Lib.runeCells r = [.int .u8 (240 + r / 262144), .int .u8 (128 + r / 4096 % 64), .int .u8 (128 + r / 64 % 64), .int .u8 (128 + r % 64)] by simp [Lib.runeCells, Lib.encodeRuneZ_four (by omega) c5]]
    exact na_four r (by omega) c5 hr h hlen
  · rw [show Lib.runeCells r = [.int .u8 239, .int .u8 191, .int .u8 189] by simp [Lib.runeCells, Lib.encodeRuneZ_bad (r := r) (Or.inr (Or.inr (by omega)))]]
    exact na_big r (by omega) hr1 hr h hlen

set_option maxRecDepth 100000 in
set_option maxHeartbeats 1000000 in
theorem appendRune {W w : World} {I : Nat → Option Obj} {F Lr : List (Nat × Obj)} {v : Value} {n : Nat} {xs : List Value} (r : Int) (hr0 : -2147483648 ≤ r) (hr1 : r ≤ 2147483647) (hr : Row 5 1 v n xs Lr) (h : St W w I (Lr ++ F)) (hlen : n + 4 ≤ 140737488355328) :
    Calls Tryd.prog 77 #[v, .int .i32 r] w fun e w' => ∃ A c L', e = .returned (.slice A (n + (Lib.runeCells r).length) c) ∧ Row 5 1 (.slice A (n + (Lib.runeCells r).length) c) (n + (Lib.runeCells r).length) (xs ++ Lib.runeCells r) L' ∧ (Off0 v → Off0 (.slice A (n + (Lib.runeCells r).length) c)) ∧ St W w' I (L' ++ F) := by
  by_cases c : 0 ≤ r ∧ r ≤ 127
  · rw [show Lib.runeCells r = [.int .u8 r] by simp [Lib.runeCells, Lib.encodeRuneZ_one c.1 c.2]]
    exact ar_ascii r c.1 c.2 hr h hlen
  · have hc : r < 0 ∨ 128 ≤ r := by omega
    have cN := na_any r hr0 hr1 hc hr h hlen
    obtain ⟨A0, c0, rfl⟩ := hr.shape
    generalize (Lib.runeCells r).length = k at *
    generalize Lib.runeCells r = rc at *
    have CN := Lib.hid cN
    clear cN hr h
    rcases hc with hc | hc
    all_goals
      go_enter Tryd.func77, Tryd.ntmps77
      go_wp2_with fail
      refine CN.out.mono ?_
      rintro e w1 ⟨A, c, L', rfl, h1, h2, h3⟩
      have H1 := Lib.hid h1; have H2 := Lib.hid h2; have H3 := Lib.hid h3
      clear h1 h2 h3 CN
      go_wp2_with fail
      go_ret
      exact ⟨_, _, _, rfl, H1.out, H2.out, H3.out⟩
end

section
set_option linter.unusedVariables false
set_option linter.unusedSimpArgs false
open Go.RowKit Go.Lib

theorem runeCells_bval (r : Int) : Lib.runeCells r = (Lib.encodeRune r).map bval := (Lib.byteCells_encodeRune r).symm

set_option maxRecDepth 100000 in
set_option maxHeartbeats 1000000 in
theorem bldRune {W w : World} {I : Nat → Option Obj} {sb : Nat} {bs : List UInt8} {F : List (Nat × Obj)} (r : Int) (hr0 : -2147483648 ≤ r) (hr1 : r ≤ 2147483647) (h : BldSt W w I sb bs F) (hlen : bs.length + 4 ≤ 140737488355328) :
    Calls Tryd.prog 57 #[.pointer (some ⟨sb, 0, none⟩), .int .i32 r] w fun e w' => ∃ v, e = .returned v ∧ BldSt W w' I sb (bs ++ Lib.encodeRune r) F := by
  obtain ⟨A0, A, c, Lr, hA, hr, h0, hst⟩ := h
  obtain ⟨er, her⟩ : ∃ er, Lib.encodeRune r = er := ⟨_, rfl⟩
  rw [her]
  have HER := Lib.hid her
  clear her
  go_enter Tryd.func57, Tryd.ntmps57
  go_wp2_with fail
  refine (bldCheck hA hst).mono ?_
  rintro e w1 ⟨rfl, h1⟩
  have q1 : w1.cell? ⟨sb, 1, none⟩ = some (.slice A bs.length c) := h1.cell (g := sb) (cs := #[.pointer (some ⟨sb, 0, none⟩), .slice A bs.length c]) (t := 129) (fr := (0, 0)) (by simp) 1
  have h2 : St W w1 I (Lr ++ ((sb, .cells #[.pointer (some ⟨sb, 0, none⟩), .slice A bs.length c] 129 (0, 0)) :: F)) := St.swap (A := [(sb, _)]) h1
  have cA := appendRune r hr0 hr1 hr h2 hlen
  have hk : (Lib.runeCells r).length = (Lib.encodeRune r).length := by rw [runeCells_bval, List.length_map]
  have hk4 : (Lib.encodeRune r).length ≤ 4 := by have := (Lib.encodeRuneZ_length r).2; simpa [Lib.encodeRune] using this
  rw [hk, runeCells_bval, HER.out] at cA
  rw [HER.out] at hk4
  have CA := Lib.hid cA; have HO := Lib.hid h0
  clear cA hst hA h1 h2 hr hk h0
  go_wp2_with fail
  refine CA.out.mono ?_
  rintro e w2 ⟨A1, c1, L1, rfl, hr1, ho, h3⟩
  have q2 : w2.cell? ⟨sb, 1, none⟩ = some (.slice A bs.length c) := h3.cell (g := sb) (cs := #[.pointer (some ⟨sb, 0, none⟩), .slice A bs.length c]) (t := 129) (fr := (0, 0)) (by simp) 1
  have f2 : w2.frozen? ⟨sb, 1, none⟩ = false := h3.frozen (g := sb) (cs := #[.pointer (some ⟨sb, 0, none⟩), .slice A bs.length c]) (t := 129) (by simp) 1
  have h4 : St W (w2.setCell ⟨sb, 1, none⟩ (.slice A1 (bs.length + er.length) c1)) I ((sb, .cells #[.pointer (some ⟨sb, 0, none⟩), .slice A1 (bs.length + er.length) c1] 129 (0, 0)) :: (L1 ++ F)) := St.set (A := []) (St.swap (B := [(sb, _)]) h3) 1 _
  have q3 : (w2.setCell ⟨sb, 1, none⟩ (.slice A1 (bs.length + er.length) c1)).cell? ⟨sb, 1, none⟩ = some (.slice A1 (bs.length + er.length) c1) := h4.cell (g := sb) (cs := #[.pointer (some ⟨sb, 0, none⟩), .slice A1 (bs.length + er.length) c1]) (t := 129) (fr := (0, 0)) (by simp) 1
  have hfin : BldSt W (w2.setCell ⟨sb, 1, none⟩ (.slice A1 (bs.length + er.length) c1)) I sb (bs ++ er) F := by
    refine ⟨_, A1, c1, L1, .inr rfl, ?_, ?_, ?_⟩ <;> rw [List.length_append]
    · rw [List.map_append]; exact hr1
    · exact ho HO.out
    · exact h4
  have Hfin := Lib.hid hfin
  clear hfin h4 h3 hr1 ho CA
  go_wp2_with fail
  go_ret2
  exact ⟨_, rfl, Hfin.out⟩

theorem BldSt.iter {W w : World} {I : Nat → Option Obj} {sb it : Nat} {bs : List UInt8} {s : ByteArray} {pos : Nat} {F : List (Nat × Obj)} (pos' : Nat) (h : BldSt W w I sb bs ((it, .stringIter s pos) :: F)) : BldSt W (w.iterAt it s pos') I sb bs ((it, .stringIter s pos') :: F) := by
  obtain ⟨A0, A, c, Lr, hA, hr, h0, hst⟩ := h
  refine ⟨A0, A, c, Lr, hA, hr, h0, ?_⟩
  have h1 := (hst.perm (by rw [← List.cons_append]; exact List.perm_middle)).iter pos'
  refine h1.perm ?_
  rw [← List.cons_append]
  exact List.perm_middle.symm
theorem BldSt.heap {W w : World} {I : Nat → Option Obj} {sb : Nat} {bs : List UInt8} {F : List (Nat × Obj)} (h : BldSt W w I sb bs F) {p : Nat × Obj} (hp : p ∈ F) : w.heap[p.1]? = some p.2 := h.frame.own p hp

/-- A builder into which nothing was written. -/
theorem bldString0 {W w : World} {I : Nat → Option Obj} {sb : Nat} {F : List (Nat × Obj)} (hst : St W w I ((sb, .cells #[.pointer none, .slice none 0 0] 129 (0, 0)) :: F)) :
    Calls Tryd.prog 59 #[.pointer (some ⟨sb, 0, none⟩)] w fun e w' => e = .returned (.string ⟨#[]⟩) ∧ St W w' I F := by
  have c1 : w.drew.cell? ⟨sb, 1, none⟩ = some (.slice none 0 0) := hst.drew1.cell (g := sb) (cs := #[.pointer none, .slice none 0 0]) (t := 129) (fr := (0, 0)) (by simp) 1
  have hSD : (Builtin.unsafeSliceData_ #[27] 158 #[.slice none 0 0]).run Tryd.prog w.drew = .ok (.pointer none) w.drew :=
    Lib.run_unsafeSliceData_nil _ _ _ _ _
  have hUS : (Builtin.unsafeString_ #[158, 3] 9 #[.pointer none, .int .i64 0]).run Tryd.prog w.drew = .ok (.string ⟨#[]⟩) w.drew := Lib.run_unsafeString_none _ _ _ _ _
  have fin : ∀ n, St W (w.drewN n) I F := fun n => (St.weaken (A := [_]) hst).drew n
  have Fin := Lib.hid fin
  clear fin hst
  go_enter Tryd.func59, Tryd.ntmps59
  go_wp2_with fail
  go_region
  all_goals
    go_wp2_with fail
    go_ret
    exact ⟨rfl, Fin.out 1⟩
theorem foldPiece_ne (s : ByteArray) (pos : Nat) : foldPiece s pos ≠ [] := by
  unfold foldPiece
  split
  · simp
  · have := (Lib.encodeRuneZ_length (toLowerU ((Utf8.decode s pos).1 : Int))).1
    intro h
    have h2 : (Lib.encodeRune (toLowerU ((Utf8.decode s pos).1 : Int))).length = 0 := by rw [h]; rfl
    simp [Lib.encodeRune] at h2
    rw [h2] at this
    simp at this
theorem foldOf_ne (s : ByteArray) (h : s.size ≠ 0) : foldOf s ≠ [] := by
  obtain ⟨f, hf⟩ : ∃ f, s.size = f + 1 := ⟨s.size - 1, by omega⟩
  unfold foldOf runesOf
  rw [hf, runesFrom_step s f 0 (by omega)]
  simp only [List.flatMap_cons]
  intro h2
  have := List.append_eq_nil_iff.1 h2
  exact foldPiece_ne s 0 this.1

set_option maxRecDepth 100000 in
set_option maxHeartbeats 2000000 in
theorem fold_any {W w : World} {I : Nat → Option Obj} {L : List (Nat × Obj)} (t : TB W I) (s : ByteArray) (hs : s.size ≤ 35184372088830) (h : St W w I L) :
    Calls Tryd.prog 31 #[.string s] w fun e w' => e = .returned (.string ⟨(foldOf s).toArray⟩) ∧ St W w' I L := by
  obtain ⟨sb, hsb⟩ : ∃ sb, sb = w.heap.size := ⟨_, rfl⟩
  have h1 := (h.alloc (.cells #[.pointer none, .slice none 0 0] 129)).alloc (.stringIter s 0)
  have hz : (w.alloc (.cells #[.pointer none, .slice none 0 0] 129)).heap.size = w.heap.size + 1 := by simp
  rw [hz, ← hsb] at h1
  obtain ⟨R, hR⟩ : ∃ R : ByteArray, R = ⟨(foldOf s).toArray⟩ := ⟨_, rfl⟩
  rw [← hR]
  have HR := Lib.hid hR; have H1 := Lib.hid h1
  clear hR h1 h hz
  go_enter Tryd.func31, Tryd.ntmps31
  go_wp2_with fail
  rw [← hsb]
  have HSB := Lib.hid hsb
  clear hsb
  by_cases hs0 : s.size = 0
  · go_loopw [] (fun wr => St W wr I ((sb + 1, .stringIter s 0) :: (sb, .cells #[.pointer none, .slice none 0 0] 129 (0, 0)) :: L)) (fun _ => 0)
    case atStart => exact H1.out
    case round =>
      have hiter : wr.heap[sb + 1]? = some (.stringIter s 0) := hrel.own (sb + 1, _) (by simp)
      have hnx : ∀ ty, (Instr.next (.pointer (some ⟨sb + 1, 0, none⟩)) true ty).run Tryd.prog wr = _ := fun ty => Lib.run_next_end_at wr (sb + 1) s 0 ty hiter (by omega)
      have H2 := Lib.hid hrel
      clear hrel H1
      go_wp2_with fail
      refine (bldString0 (F := L) (St.weaken (A := [_]) H2.out)).mono ?_
      rintro e w1 ⟨rfl, h2⟩
      have H3 := Lib.hid h2
      clear h2
      have he : (foldOf s).toArray = #[] := by
        have : foldOf s = [] := by
          have := foldOf_len s
          exact List.eq_nil_of_length_eq_zero (by omega)
        rw [this]
      have hR0 : R = ⟨#[]⟩ := by rw [HR.out, he]
      have HR0 := Lib.hid hR0
      clear he hR0
      go_wp2_with fail
      go_ret
      exact ⟨by rw [HR0.out]; rfl, H3.out⟩
  · go_loopw [] (fun wr => ∃ (fuel pos : Nat) (don : List Nat), runesOf s = don ++ runesFrom s fuel pos ∧ s.size ≤ pos + fuel ∧ BldSt W wr I sb (don.flatMap (foldPiece s)) ((sb + 1, .stringIter s pos) :: L)) (fun wr => s.size - wr.iterPos (sb + 1))
    case atStart => exact ⟨s.size, 0, [], rfl, by omega, ⟨_, none, 0, [], .inl rfl, Row.nil _ _, Off0.nil, H1.out.perm (List.Perm.swap _ _ _)⟩⟩
    case round =>
      obtain ⟨fuel, pos, don, hro, hfu, hB⟩ := hrel
      clear H1
      have hiter : wr.heap[sb + 1]? = some (.stringIter s pos) := hB.heap (p := (sb + 1, _)) (by simp)
      have hdl : (don.flatMap (foldPiece s)).length ≤ 4 * s.size := by
        have h1 := foldPieces_len s don
        have h2 := runesOf_len s
        rw [hro, List.length_append] at h2
        omega
      by_cases hp : pos < s.size
      · have hnx : ∀ ty, (Instr.next (.pointer (some ⟨sb + 1, 0, none⟩)) true ty).run Tryd.prog wr = _ := fun ty => Lib.run_next_any_at wr (sb + 1) s pos ty hiter hp
        have hwd := Lib.width_pos s pos
        have hrl := Lib.rune_le s pos
        have h2 := hB.iter (pos + (Utf8.decode s pos).2)
        obtain ⟨f, rfl⟩ : ∃ f, fuel = f + 1 := ⟨fuel - 1, by omega⟩
        rw [runesFrom_step s f pos hp] at hro
        have hro2 : runesOf s = (don ++ [pos]) ++ runesFrom s f (pos + (Utf8.decode s pos).2) := by rw [hro]; simp
        have hfl : (don ++ [pos]).flatMap (foldPiece s) = don.flatMap (foldPiece s) ++ foldPiece s pos := by simp
        obtain ⟨acc, hacc⟩ : ∃ acc, don.flatMap (foldPiece s) = acc := ⟨_, rfl⟩
        rw [hacc] at h2 hdl hfl
        obtain ⟨A0, A, c, Lr, hA, hr, h0, hst⟩ := h2
        have HRO := Lib.hid hro2; have HI := Lib.hid hiter; have HST := Lib.hid hst; have HFL := Lib.hid hfl; have HRR := Lib.hid hr; have HO := Lib.hid h0
        clear hro hro2 hB hst hfl hacc hr h0
        go_wp2_with fail
        refine (broken_any t s pos hp HST.out).mono ?_
        rintro e w1 ⟨rfl, h3⟩
        have hB1 : BldSt W w1 I sb acc ((sb + 1, .stringIter s (pos + (Utf8.decode s pos).2)) :: L) := ⟨A0, A, c, Lr, hA, HRR.out, HO.out, h3⟩
        have HB1 := Lib.hid hB1
        clear hB1 h3 HST HRR HO hA hiter
        cases hbr : brokenAt s pos with
        | true =>
          have hfp : foldPiece s pos = [s[pos]'hp] := by rw [foldPiece, hbr, if_pos rfl, get_lt s pos hp]
          have HFP := Lib.hid hfp
          clear hfp
          go_wp2_with fail
          refine (bldByte (s[pos]'hp) HB1.out (by omega)).mono ?_
          rintro e w2 ⟨rfl, h4⟩
          have H4 := Lib.hid h4
          clear h4 HB1
          go_wp2_with fail
          go_roundw
          case rel => exact ⟨f, _, don ++ [pos], HRO.out, by omega, by rw [HFL.out, HFP.out]; exact H4.out⟩
          case measure =>
            have h5 : w2.heap[sb + 1]? = some (.stringIter s (pos + (Utf8.decode s pos).2)) := H4.out.heap (p := (sb + 1, _)) (by simp)
            simp only [World.iterPos, h5, HI.out]
            omega
        | false =>
          have hfp : foldPiece s pos = Lib.encodeRune (toLowerU ((Utf8.decode s pos).1 : Int)) := by rw [foldPiece, hbr]; rfl
          have hlr := (toLowerU_ok _ (rune_ok s pos)).range
          have HFP := Lib.hid hfp
          clear hfp
          go_wp2_with fail
          refine (Tryd.unicode_ToLower_laid ((Utf8.decode s pos).1 : Int) w1 (t.on HB1.out.frame).case).mono ?_
          rintro e w2 ⟨rfl, q, rfl⟩
          obtain ⟨A0, A, c, Lr, hA, hr, h0, hst⟩ := HB1.out
          have hB2 : BldSt W (w1.drewN q) I sb acc ((sb + 1, .stringIter s (pos + (Utf8.decode s pos).2)) :: L) := ⟨A0, A, c, Lr, hA, hr, h0, hst.drew q⟩
          have HB2 := Lib.hid hB2
          clear hB2 HB1 hA hr h0 hst
          generalize toLowerU ((Utf8.decode s pos).1 : Int) = tl at *
          go_wp2_with fail
          refine (bldRune tl hlr.1 hlr.2 HB2.out (by omega)).mono ?_
          rintro e w3 ⟨v, rfl, h4⟩
          have H4 := Lib.hid h4
          clear h4 HB2
          go_wp2_with fail
          go_roundw
          case rel => exact ⟨f, _, don ++ [pos], HRO.out, by omega, by rw [HFL.out, HFP.out]; exact H4.out⟩
          case measure =>
            have h5 : w3.heap[sb + 1]? = some (.stringIter s (pos + (Utf8.decode s pos).2)) := H4.out.heap (p := (sb + 1, _)) (by simp)
            simp only [World.iterPos, h5, HI.out]
            omega
      · have hend : runesOf s = don := by rw [hro, runesFrom_end s _ _ hp, List.append_nil]
        have hnx : ∀ ty, (Instr.next (.pointer (some ⟨sb + 1, 0, none⟩)) true ty).run Tryd.prog wr = _ := fun ty => Lib.run_next_end_at wr (sb + 1) s pos ty hiter hp
        have hne : don.flatMap (foldPiece s) ≠ [] := by rw [← hend]; exact foldOf_ne s hs0
        have hR1 : R = ⟨(don.flatMap (foldPiece s)).toArray⟩ := by rw [HR.out, foldOf, hend]
        obtain ⟨acc, hacc⟩ : ∃ acc, don.flatMap (foldPiece s) = acc := ⟨_, rfl⟩
        rw [hacc] at hB hne hR1
        have HB := Lib.hid hB; have HR1 := Lib.hid hR1
        clear hB hR1 hiter hro hend hacc hdl
        go_wp2_with fail
        refine (bldString HB.out hne).mono ?_
        rintro e w1 ⟨rfl, h2⟩
        have H3 := Lib.hid (St.weaken (A := [_]) h2)
        clear h2
        go_wp2_with fail
        go_ret
        exact ⟨by rw [HR1.out]; rfl, H3.out⟩
end
end Go.Proofs.YtnhlpiomfljlcaaDoor
