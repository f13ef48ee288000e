/- order: the histories of OrderNames as data. -/
import Derived.Test.YtnjnooeldkideaaDoorMOrAo
import Derived.Great.BuildSlice
namespace Go.Proofs.YtnjnooeldkideaaDoor
set_option linter.unusedVariables false
set_option linter.unusedSimpArgs false
open Go.RowKit Go.Lib Go.Deep
def nmC : Cl := ⟨0, 3, 0, 0, empB⟩
def nmR : Ry := ⟨0, 0, 0, 0, 0, gTb⟩
def nmE (i : Int) : En := ⟨1, i, nmC, nmR, 0, 0, 0, zS⟩
def nmA : Sp := ⟨1, 1, 2, nmC, nmR⟩
def nmB : Sp := ⟨2, 3, 4, nmC, nmR⟩
section
set_option maxRecDepth 100000
theorem nm_c1 : checkM gTb [] 0 [nmE 1, nmE 2] [nmA, nmB] = 0 := by decide +kernel
theorem nm_f1 : findM gTb [] 0 [nmE 1, nmE 2] [nmA, nmB] = 0 := by decide +kernel
theorem nm_c2 : checkM gTb [] 0 [nmE 2, nmE 1] [nmA, nmB] = 263 := by decide +kernel
theorem nm_f2 : findM gTb [] 0 [nmE 2, nmE 1] [nmA, nmB] = 0 := by decide +kernel
theorem nm_c3 : checkM gTb [] 0 [nmE 1] [nmA, nmB] = 262 := by decide +kernel
theorem nm_c4 : checkM zTb [] 0 [nmE 1, nmE 2] [nmA, nmB] = 261 := by decide +kernel
theorem nm_f4 : findM zTb [] 0 [nmE 1, nmE 2] [nmA, nmB] = 261 := by decide +kernel
theorem nm_f5 : findM gTb [] 0 [] [nmA, nmA, nmA, nmA, nmA, nmA] = 264 := by decide +kernel
theorem run_nm_c (w : World) : (Instr.build 24 #[(1, .int .i64 3)]).run Tryd.prog w = .ok (.agg nmC.cells) w := run_build w _ _ _ (by kernel_rfl)
theorem run_nm_r (w : World) : (Instr.build 36 #[(5, .agg gTb.cells)]).run Tryd.prog w = .ok (.agg nmR.cells) w := run_build w _ _ _ (by kernel_rfl)
theorem run_nm_e1 (w : World) : (Instr.build 38 #[(0, .int .i64 1), (1, .int .i64 1), (2, .agg nmC.cells), (3, .agg nmR.cells)]).run Tryd.prog w = .ok (.agg (nmE 1).cells) w := run_build w _ _ _ (by kernel_rfl)
theorem run_nm_e2 (w : World) : (Instr.build 38 #[(0, .int .i64 1), (1, .int .i64 2), (2, .agg nmC.cells), (3, .agg nmR.cells)]).run Tryd.prog w = .ok (.agg (nmE 2).cells) w := run_build w _ _ _ (by kernel_rfl)
theorem run_nm_a (w : World) : (Instr.build 40 #[(0, .int .i64 1), (1, .int .i64 1), (2, .int .i64 2), (3, .agg nmC.cells), (4, .agg nmR.cells)]).run Tryd.prog w = .ok (.agg nmA.cells) w := run_build w _ _ _ (by kernel_rfl)
theorem run_nm_b (w : World) : (Instr.build 40 #[(0, .int .i64 2), (1, .int .i64 3), (2, .int .i64 4), (3, .agg nmC.cells), (4, .agg nmR.cells)]).run Tryd.prog w = .ok (.agg nmB.cells) w := run_build w _ _ _ (by kernel_rfl)
theorem run_nm_h (t : Tb) (ht : t = gTb ∨ t = zTb) (A B : Option Addr) (n c k d : Nat) (w : World) : (Instr.build 45 #[(0, .agg t.cells), (3, .slice A n c), (4, .slice B k d)]).run Tryd.prog w = .ok (.agg (hyCells t (.slice none 0 0) 0 (.slice A n c) (.slice B k d))) w := by
 rcases ht with rfl | rfl <;> exact run_build w _ _ _ (by kernel_rfl)
theorem run_nm_z (w : World) : (Instr.build 32 #[]).run Tryd.prog w = .ok (.agg zTb.cells) w := run_build w _ _ _ (by kernel_rfl)
def nmCells (es : List En) : Array Value := (enRows es).flatten.toArray
def nmSpans (ss : List Sp) : Array Value := (spRows ss).flatten.toArray
theorem nm_en : ∃ ie : TypeInfo, Tryd.prog.info? 38 = some ie ∧ ie.zero = some (.agg Tryd.zeroCells38) ∧ ie.size = 126 := by
 have h := en_zero
 cases hi : Tryd.prog.info? 38 with
 | none => rw [hi] at h; cases h
 | some ie =>
  rw [hi] at h
  simp only [Option.map_some, Option.some.injEq, Prod.mk.injEq] at h
  exact ⟨ie, rfl, h.1, h.2.1⟩
theorem nm_sp : ∃ ie : TypeInfo, Tryd.prog.info? 40 = some ie ∧ ie.zero = some (.agg Tryd.zeroCells40) ∧ ie.size = 88 := by
 have h : (Tryd.prog.info? 40).map (fun i => (i.zero, i.size, i.bytes)) = some (some (.agg Tryd.zeroCells40), 88, 264) := by kernel_rfl
 cases hi : Tryd.prog.info? 40 with
 | none => rw [hi] at h; cases h
 | some ie =>
  rw [hi] at h
  simp only [Option.map_some, Option.some.injEq, Prod.mk.injEq] at h
  exact ⟨ie, rfl, h.1, h.2.1⟩
theorem run_bs_e2 (i j : Int) (hi : i = 1 ∧ j = 2 ∨ i = 2 ∧ j = 1) (w : World) : (Instr.buildSlice 41 2 #[(0, .agg (nmE i).cells), (1, .agg (nmE j).cells)]).run Tryd.prog w = .ok (.slice (some ⟨w.heap.size, 0, none⟩) 2 2) (w.alloc (.cells (nmCells [nmE i, nmE j]) 38)) := by
 obtain ⟨ie, h1, h2, h3⟩ := nm_en
 refine Go.run_buildSlice w 41 38 2 _ _ ie _ Tryd.underlying41 h1 h2 (by rw [h3]; decide) (by rw [h3]; decide) ?_
 rw [h3]
 rcases hi with ⟨rfl, rfl⟩ | ⟨rfl, rfl⟩ <;> kernel_rfl
theorem run_bs_e1 (w : World) : (Instr.buildSlice 41 1 #[(0, .agg (nmE 1).cells)]).run Tryd.prog w = .ok (.slice (some ⟨w.heap.size, 0, none⟩) 1 1) (w.alloc (.cells (nmCells [nmE 1]) 38)) := by
 obtain ⟨ie, h1, h2, h3⟩ := nm_en
 refine Go.run_buildSlice w 41 38 1 _ _ ie _ Tryd.underlying41 h1 h2 (by rw [h3]; decide) (by rw [h3]; decide) ?_
 rw [h3]
 kernel_rfl
theorem run_bs_s2 (w : World) : (Instr.buildSlice 42 2 #[(0, .agg nmA.cells), (1, .agg nmB.cells)]).run Tryd.prog w = .ok (.slice (some ⟨w.heap.size, 0, none⟩) 2 2) (w.alloc (.cells (nmSpans [nmA, nmB]) 40)) := by
 obtain ⟨ie, h1, h2, h3⟩ := nm_sp
 refine Go.run_buildSlice w 42 40 2 _ _ ie _ Tryd.underlying42 h1 h2 (by rw [h3]; decide) (by rw [h3]; decide) ?_
 rw [h3]
 kernel_rfl
theorem run_bs_s6 (w : World) : (Instr.buildSlice 42 6 #[(0, .agg nmA.cells), (1, .agg nmA.cells), (2, .agg nmA.cells), (3, .agg nmA.cells), (4, .agg nmA.cells), (5, .agg nmA.cells)]).run Tryd.prog w = .ok (.slice (some ⟨w.heap.size, 0, none⟩) 6 6) (w.alloc (.cells (nmSpans [nmA, nmA, nmA, nmA, nmA, nmA]) 40)) := by
 obtain ⟨ie, h1, h2, h3⟩ := nm_sp
 refine Go.run_buildSlice w 42 40 6 _ _ ie _ Tryd.underlying42 h1 h2 (by rw [h3]; decide) (by rw [h3]; decide) ?_
 rw [h3]
 kernel_rfl
end
theorem nmC_ok : nmC.Ok := ⟨by decide, by decide, by decide, by decide, by decide, by decide, by decide, by decide, by decide⟩
theorem nmR_ok : nmR.Ok := ⟨by decide, by decide, by decide, by decide, by decide, by decide, by decide, by decide, by decide, by decide, gTb_ok⟩
theorem nmE_ok (i : Int) (hi : i = 1 ∨ i = 2) : (nmE i).Ok := by
 rcases hi with rfl | rfl <;> exact ⟨by decide, by decide, by decide, by decide, nmC_ok, nmR_ok, by decide, by decide, by decide, by decide, by decide, by decide, zS_ok⟩
theorem nmA_ok : nmA.Ok := ⟨by decide, by decide, by decide, by decide, by decide, by decide, nmC_ok, nmR_ok⟩
theorem nmB_ok : nmB.Ok := ⟨by decide, by decide, by decide, by decide, by decide, by decide, nmC_ok, nmR_ok⟩
section
variable {W w : World} {J : Nat → Option Obj} {F : List (Nat × Obj)}
theorem rd_row {b k n : Nat} {T : TypeId} {rows : List (List Value)} {X : Array Value} (hk : 0 < k) (hX : rows.flatten.toArray = X) (hl : ∀ r ∈ rows, r.length = k) (hn : X.size = n * k) (hm : n ≤ maxLen) : Rd W J [(b, .cells X T (0, 0))] k (some ⟨b, 0, none⟩) rows :=
 Rd.of_row hk (Row.whole T k b n X hn hm) (by rw [← hX]) hl
theorem nm_hy {t : Tb} (ht : t = gTb ∨ t = zTb) {es : List En} {ss : List Sp} {lA pA : Option Addr} {Le Ls : List (Nat × Obj)} (he : ∀ e ∈ es, e = nmE 1 ∨ e = nmE 2) (hs : ∀ s ∈ ss, s = nmA ∨ s = nmB) (ne : es.length ≤ 100) (ns : ss.length ≤ 100)
  (re : Rd W J Le 126 lA (enRows es)) (rs : Rd W J Ls 88 pA (spRows ss)) (hle : ∀ p ∈ Le, p ∈ F) (hls : ∀ p ∈ Ls, p ∈ F) : HyOk W J F t none [] 0 lA es pA ss where
 tok := by rcases ht with rfl | rfl; exact gTb_ok; exact zTb_ok
 x0 := by decide
 x1 := by decide
 nm := ⟨[], rd_nil, fun p hp => (by cases hp)⟩
 nfew := by decide
 nsz := fun s hs => (by cases hs)
 en := ⟨Le, re, hle⟩
 efew := ne
 eok := fun e h => by rcases he e h with rfl | rfl; exact nmE_ok 1 (.inl rfl); exact nmE_ok 2 (.inr rfl)
 enm := fun e h => by rcases he e h with rfl | rfl <;> decide
 sp := ⟨Ls, rs, hls⟩
 sfew := ns
 sok := fun e h => by rcases hs e h with rfl | rfl; exact nmA_ok; exact nmB_ok
 snm := fun e h => by rcases hs e h with rfl | rfl <;> decide
end
end Go.Proofs.YtnjnooeldkideaaDoor
