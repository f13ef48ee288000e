/- digest: spread. -/
import Derived.Test.YtfbffmckmchbbaaDoorTuTa
import Derived.Test.YtfbffmckmchbbaaDoorSha
import Derived.Test.YtfbffmckmchbbaaDoorQtail
namespace Go.Proofs.YtfbffmckmchbbaaDoor
set_option linter.unusedVariables false
set_option linter.unusedSimpArgs false
open Go.RowKit
attribute [local go_sem] v_and v_or v_xor v_xor0 v_not v_add v_add_ v_shr3 v_shr10 v_shl24_ v_shl16_ v_shl8_ v_byte_ v_byte

set_option maxRecDepth 10000 in
set_option maxHeartbeats 1000000 in
theorem spread_any (bs : List UInt8) (hb : bs.length = 64) (b off c : Nat) {W w : World} {I : Nat → Option Obj} {F : List (Nat × Obj)} (hst : St W w I F)
    (hc : ∀ k, k < 64 → ∀ w', St W w' I F → w'.cell? ⟨b, off + k, none⟩ = some (.int .u8 ((bs.getD k 0).toNat : Int))) (hcap : 64 ≤ c) :
    Calls Tryd.prog 102 #[.slice (some ⟨b, off, none⟩) 64 c] w fun e w' => e = .returned (.agg (part 64 (sched bs))) ∧ St W w' I F := by
  have hst2 : St W ((w.alloc (.cells (part 64 []) 154)).alloc (.cells (part 64 []) 154)) I ([(w.heap.size + 1, .cells (part 64 []) 154), (w.heap.size, .cells (part 64 []) 154)] ++ F) := by
    simpa using (hst.alloc (.cells (part 64 []) 154)).alloc (.cells (part 64 []) 154)
  have Hc := Lib.hid hc; clear hc
  generalize hg2 : w.heap.size = g2 at *
  have Hg := Lib.hid hg2; clear hg2
  go_enter Tryd.func102, Tryd.ntmps102
  go_wp2_with fail
  rw [Hg.out]
  go_loopw [7] (fun i wr => ∃ t : Nat, t ≤ 64 ∧ i = .int .i64 t ∧ St W wr I ([(g2 + 1, .cells (part 64 (schedTo bs t)) 154), (g2, .cells (part 64 []) 154)] ++ F)) (fun i _ => 64 - (intOf i).toNat)
  case atStart => exact ⟨0, by omega, rfl, hst2⟩
  case round =>
    obtain ⟨t, ht, rfl, hs⟩ := hrel
    clear hst2
    by_cases h16 : t < 16
    · have hF : ∀ m, St W (wr.drewN m) I F := fun m => (hs.drew m).weaken
      have hset : ∀ m u, St W ((wr.drewN m).setCell ⟨g2 + 1, t, none⟩ u) I ([(g2 + 1, .cells ((part 64 (schedTo bs t)).setIfInBounds t u) 154), (g2, .cells (part 64 []) 154)] ++ F) := fun m u => St.set (A := []) (hs.drew m) t u
      have k0 : ∀ w', St W w' I F → w'.cell? ⟨b, off + 4 * t, none⟩ = some (.int .u8 ((bs.getD (4 * t) 0).toNat : Int)) := Hc.out (4 * t) (by omega)
      have k1 : ∀ w', St W w' I F → w'.cell? ⟨b, off + (4 * t + 1), none⟩ = some (.int .u8 ((bs.getD (4 * t + 1) 0).toNat : Int)) := Hc.out (4 * t + 1) (by omega)
      have k2 : ∀ w', St W w' I F → w'.cell? ⟨b, off + (4 * t + 2), none⟩ = some (.int .u8 ((bs.getD (4 * t + 2) 0).toNat : Int)) := Hc.out (4 * t + 2) (by omega)
      have k3 : ∀ w', St W w' I F → w'.cell? ⟨b, off + (4 * t + 3), none⟩ = some (.int .u8 ((bs.getD (4 * t + 3) 0).toNat : Int)) := Hc.out (4 * t + 3) (by omega)
      have hst : schedTo bs (t + 1) = schedTo bs t ++ [wordAt bs t] := by simp [schedTo, h16]
      have hwd : wordAt bs t = ((bw (bs.getD (4 * t) 0) <<< 24 ||| bw (bs.getD (4 * t + 1) 0) <<< 16) ||| bw (bs.getD (4 * t + 2) 0) <<< 8) ||| bw (bs.getD (4 * t + 3) 0) := rfl
      generalize bs.getD (4 * t) 0 = b0 at *
      generalize bs.getD (4 * t + 1) 0 = b1 at *
      generalize bs.getD (4 * t + 2) 0 = b2 at *
      generalize bs.getD (4 * t + 3) 0 = b3 at *
      have hfin : ∀ m, St W ((wr.drewN m).setCell ⟨g2 + 1, t, none⟩ (.int .u32 (wv (((bw b0 <<< 24 ||| bw b1 <<< 16) ||| bw b2 <<< 8) ||| bw b3)))) I ([(g2 + 1, .cells (part 64 (schedTo bs (t + 1))) 154), (g2, .cells (part 64 []) 154)] ++ F) := by
        intro m
        have e := part_push 64 (schedTo bs t) (wordAt bs t) (by rw [schedTo_len]; omega)
        rw [schedTo_len, ← hst, hwd] at e
        rw [← e]
        exact hset m _
      have hold : ∃ u, wr.cell? ⟨g2 + 1, t, none⟩ = some u := ⟨wz, by rw [hs.cell (g := g2 + 1) (cs := part 64 (schedTo bs t)) (t := 154) (fr := (0, 0)) (by simp)]; exact part_zero 64 _ t (by rw [schedTo_len]; omega) (by omega)⟩
      obtain ⟨uo, hold⟩ := hold
      have hfr : wr.frozen? ⟨g2 + 1, t, none⟩ = false := hs.frozen (g := g2 + 1) (cs := part 64 (schedTo bs t)) (t := 154) (by simp) t
      have Hfin := Lib.hid hfin
      have m0 := k0 wr (hF 0)
      have m1 := k1 wr (hF 0)
      have m2 := k2 wr (hF 0)
      have m3 := k3 wr (hF 0)
      clear hst hwd hfin hset k0 k1 k2 k3 hF
      go_wp2_with fail
      refine wp_region_quiet_tail 35 (by kernel_rfl) (by kernel_rfl) ?_
      simp only [List.take_succ_cons, List.take_zero, List.drop_succ_cons, List.drop_zero]
      repeat (go_big_quiet_step (fail))
      refine wpQuiet_nil ?_
      rintro _ ⟨nq, rfl⟩
      go_wp2_with fail
      go_roundw
      case rel =>
        refine ⟨t + 1, by omega, by go_num, ?_⟩
        exact Hfin.out _
      case measure => simp [intOf]; omega
    · by_cases h64 : t < 64
      · have hlen := schedTo_len bs t
        have hat : ∀ j, j < t → wr.cell? ⟨g2 + 1, j, none⟩ = some (.int .u32 (wv ((schedTo bs t).getD j 0))) := fun j hj => by
          rw [hs.cell (g := g2 + 1) (cs := part 64 (schedTo bs t)) (t := 154) (fr := (0, 0)) (by simp)]
          exact part_get 64 _ j (by omega)
        have q16 := hat (t - 16) (by omega)
        have q15 := hat (t - 15) (by omega)
        have q7 := hat (t - 7) (by omega)
        have q2 := hat (t - 2) (by omega)
        have hst : schedTo bs (t + 1) = schedTo bs t ++ [nextW (schedTo bs t) t] := by simp [schedTo, h16]
        have hnx : nextW (schedTo bs t) t = (schedTo bs t).getD (t - 16) 0 + (turnR ((schedTo bs t).getD (t - 15) 0) [7, 18] ^^^ ((schedTo bs t).getD (t - 15) 0 >>> 3)) + (schedTo bs t).getD (t - 7) 0 + (turnR ((schedTo bs t).getD (t - 2) 0) [17, 19] ^^^ ((schedTo bs t).getD (t - 2) 0 >>> 10)) := rfl
        generalize (schedTo bs t).getD (t - 16) 0 = x16 at *
        generalize (schedTo bs t).getD (t - 15) 0 = x15 at *
        generalize (schedTo bs t).getD (t - 7) 0 = x7 at *
        generalize (schedTo bs t).getD (t - 2) 0 = x2 at *
        have e16 : IntKind.i64.wrap ((t : Int) - 16) = (t : Int) - 16 := IntWalk.i64_in _ (by omega)
        have e7 : IntKind.i64.wrap ((t : Int) - 7) = (t : Int) - 7 := IntWalk.i64_in _ (by omega)
        have b16 : (0 : Int) ≤ (t : Int) - 16 := by omega
        have b7 : (0 : Int) ≤ (t : Int) - 7 := by omega
        have a7 : (7 : Int) ≤ (t : Int) := by omega
        have a16 : (16 : Int) ≤ (t : Int) := by omega
        have c16 : (t : Int) - 16 < 64 := by omega
        have c7 : (t : Int) - 7 < 64 := by omega
        have d16 : ((t : Int) - 16).toNat = t - 16 := by omega
        have d7 : ((t : Int) - 7).toNat = t - 7 := by omega
        have tl : (t : Int) < 64 := by omega
        clear hat hlen
        go_wp2_with fail
        go_quiet (fail)
        go_wp2_with fail
        have hold : wr.cell? ⟨g2 + 1, t, none⟩ = some wz := by rw [hs.cell (g := g2 + 1) (cs := part 64 (schedTo bs t)) (t := 154) (fr := (0, 0)) (by simp)]; exact part_zero 64 _ t (by rw [schedTo_len]; omega) (by omega)
        have hold2 : ∀ m o1 o2, (((wr.drewN m).alloc o1).alloc o2).cell? ⟨g2 + 1, t, none⟩ = some wz := fun m o1 o2 => cell_old (cell_old (cell_drewN hold))
        have hfr : ∀ m o1 o2, (((wr.drewN m).alloc o1).alloc o2).frozen? ⟨g2 + 1, t, none⟩ = false := fun m o1 o2 => (((hs.drew m).alloc_ o1).alloc_ o2).frozen (g := g2 + 1) (cs := part 64 (schedTo bs t)) (t := 154) (by simp) t
        have hset : ∀ m o1 o2 u, St W ((((wr.drewN m).alloc o1).alloc o2).setCell ⟨g2 + 1, t, none⟩ u) I ([(g2 + 1, .cells ((part 64 (schedTo bs t)).setIfInBounds t u) 154), (g2, .cells (part 64 []) 154)] ++ F) := fun m o1 o2 u => St.set (A := []) (((hs.drew m).alloc_ o1).alloc_ o2) t u
        have hfin : ∀ m o1 o2, St W ((((wr.drewN m).alloc o1).alloc o2).setCell ⟨g2 + 1, t, none⟩ (.int .u32 (wv (x16 + (turnR x15 [7, 18] ^^^ (x15 >>> 3)) + x7 + (turnR x2 [17, 19] ^^^ (x2 >>> 10)))))) I ([(g2 + 1, .cells (part 64 (schedTo bs (t + 1))) 154), (g2, .cells (part 64 []) 154)] ++ F) := by
          intro m o1 o2
          have e := part_push 64 (schedTo bs t) (nextW (schedTo bs t) t) (by rw [schedTo_len]; omega)
          rw [schedTo_len, ← hst, hnx] at e
          rw [← e]
          exact hset m o1 o2 _
        have r16 : ∀ m o1 o2 u, ((((wr.drewN m).alloc o1).alloc o2).setCell ⟨g2 + 1, t, none⟩ u).cell? ⟨g2 + 1, t - 16, none⟩ = some (.int .u32 (wv x16)) := fun m o1 o2 u => by
          rw [World.cell?_setCell_other _ _ _ _ (by intro e; injection e with _ e; omega)]
          exact cell_old (cell_old (cell_drewN q16))
        have r7 : ∀ m o1 o2 u, ((((wr.drewN m).alloc o1).alloc o2).setCell ⟨g2 + 1, t, none⟩ u).cell? ⟨g2 + 1, t - 7, none⟩ = some (.int .u32 (wv x7)) := fun m o1 o2 u => by
          rw [World.cell?_setCell_other _ _ _ _ (by intro e; injection e with _ e; omega)]
          exact cell_old (cell_old (cell_drewN q7))
        have Hfin := Lib.hid hfin
        clear hfin hset hst hnx
        have zg : g2 + 1 < wr.heap.size := hs.lt (p := (g2 + 1, .cells (part 64 (schedTo bs t)) 154)) (by simp)
        go_region_held3 (fun w' => w'.cell? ⟨g2 + 1, t - 16, none⟩ = some (.int .u32 (wv x16)) ∧ w'.cell? ⟨g2 + 1, t - 7, none⟩ = some (.int .u32 (wv x7))) (first | go_keep | exact ⟨r16 _ _ _ _, r7 _ _ _ _⟩)
          (first
          | (go_at_call 104; (with_reducible refine (turn2 x15 7 18 (by decide) (by decide) _ _ ?_ ?_).mono ?_); (first | exact cell_new (by simp) rfl | exact cell_old (cell_new (by simp) rfl)); (first | exact cell_new (by simp) rfl | exact cell_old (cell_new (by simp) rfl)); rintro e w5 ⟨rfl, rfl⟩)
          | (go_at_call 104; (with_reducible refine (turn2 x2 17 19 (by decide) (by decide) _ _ ?_ ?_).mono ?_); (first | exact cell_new (by simp) rfl | exact cell_old (cell_new (by simp) rfl)); (first | exact cell_new (by simp) rfl | exact cell_old (cell_new (by simp) rfl)); rintro e w5 ⟨rfl, rfl⟩))
        all_goals
          go_wp2_with fail
          go_roundw
          case rel =>
            refine ⟨t + 1, by omega, by go_num, ?_⟩
            exact Hfin.out _ _ _
          case measure => simp [intOf]; omega
      · have : t = 64 := by omega
        subst this
        have hs' : St W wr I ((g2, .cells (part 64 []) 154) :: ([(g2 + 1, .cells (part 64 (schedTo bs 64)) 154)] ++ F)) := St.swap (A := [(g2 + 1, _)]) (B := [(g2, _)]) hs
        have hp : (g2 + 1, Obj.cells (part 64 (schedTo bs 64)) 154 (0, 0)) ∈ [(g2 + 1, Obj.cells (part 64 (schedTo bs 64)) 154), (g2, .cells (part 64 []) 154)] ++ F := by simp
        have z1 : (part 64 (schedTo bs 64)).size = 64 := part_size 64 _ (by rw [schedTo_len]; omega)
        have z0 : (part 64 []).size = 64 := part_size 64 _ (by simp)
        have hy : ∀ j, j < (part 64 (schedTo bs 64)).size → (part 64 (schedTo bs 64))[0 + j]? = (part 64 (schedTo bs 64))[j]? := fun j _ => by rw [Nat.zero_add]
        have i1 : (Tryd.prog.info? 154).map (·.size) = some (part 64 (schedTo bs 64)).size := by rw [z1]; kernel_rfl
        have o1 : (part 64 (schedTo bs 64)).all (·.oneCell') = true := by
          rw [part, schedTo_len]
          exact all_oneCell_toArray (by simp [wval, Value.oneCell'])
        have ew : setMany (part 64 []) 0 (part 64 (schedTo bs 64)).toList = part 64 (schedTo bs 64) := by rw [setMany_whole _ _ (by simp [z0, z1])]
        have f1 : 0 + (part 64 (schedTo bs 64)).size ≤ (part 64 []).size := by omega
        have Z1 := Lib.hid z1; have Z0 := Lib.hid z0; have EW := Lib.hid ew
        clear z1 z0 ew
        have hCS : part 64 (schedTo bs 64) = part 64 (sched bs) := rfl
        have HCS := Lib.hid hCS; clear hCS
        generalize part 64 (schedTo bs 64) = CS at *
        generalize part 64 [] = C0 at *
        go_wp2_with (first
          | (with_reducible refine wpList_load_st rfl 154 (.tmp 3) rfl (g := g2 + 1) (off := 0) rfl hs hp CS hy _ Tryd.underlying154 rfl i1 ?_)
          | (with_reducible refine wpList_store_st rfl 154 (.tmp 2) (.tmp 81) rfl (g := g2) (off := 0) CS rfl rfl hs' f1 i1 o1 ?_; intro w9 h9))
        rw [EW.out] at h9
        clear hs hs' hp hst
        go_wp2_with fail
        refine bodyPost_ret (results_cell_row rfl _ w9 g2 154 CS (0, 0) _ rfl (h9.own (g2, .cells CS 154 (0, 0)) (by simp)) Tryd.underlying154 (by kernel_rfl) i1) rfl ?_
        exact ⟨by rw [HCS.out], h9.weaken (A := [_, _])⟩
end Go.Proofs.YtfbffmckmchbbaaDoor
