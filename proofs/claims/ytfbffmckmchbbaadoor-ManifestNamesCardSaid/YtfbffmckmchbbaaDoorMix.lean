/- digest: mix. -/
import Derived.Test.YtfbffmckmchbbaaDoorSpread
import Derived.Test.YtfbffmckmchbbaaDoorTuTa
namespace Go.Proofs.YtfbffmckmchbbaaDoor
set_option linter.unusedVariables false
set_option linter.unusedSimpArgs false
open Go.RowKit
attribute [local go_sem] v_and v_or v_xor v_xor0 v_not v_add v_add_ v_shr3 v_shr10 v_shl24_ v_shl16_ v_shl8_ v_byte_ v_byte

theorem eight (l : List Wd) (hl : l.length = 8) : ∃ a0 a1 a2 a3 a4 a5 a6 a7, l = [a0, a1, a2, a3, a4, a5, a6, a7] := by
  match l, hl with
  | [a0, a1, a2, a3, a4, a5, a6, a7], _ => exact ⟨_, _, _, _, _, _, _, _, rfl⟩

def addTo (l x : List Wd) : Nat → List Wd
  | 0 => l
  | i + 1 => (addTo l x i).set i (l.getD i 0 + x.getD i 0)
theorem addTo_len (l x : List Wd) : ∀ i, (addTo l x i).length = l.length
  | 0 => rfl
  | i + 1 => by rw [addTo, List.length_set, addTo_len l x i]
theorem addTo_get (l x : List Wd) : ∀ i j, i ≤ j → (addTo l x i).getD j 0 = l.getD j 0
  | 0, _, _ => rfl
  | i + 1, j, h => by
    rw [addTo, List.getD_eq_getElem?_getD, List.getElem?_set_ne (by omega), ← List.getD_eq_getElem?_getD, addTo_get l x i j (by omega)]
theorem part_set (n : Nat) (l : List Wd) (i : Nat) (y : Wd) (h : l.length = n) : (part n l).setIfInBounds i (wval y) = part n (l.set i y) := by
  rw [part_full n l h, part_full n _ (by rw [List.length_set]; exact h), List.map_set]
  simp

theorem v_not_ (x : Wd) : bits .xor .u32 (if IntKind.u32.signed = true then -1 else IntKind.u32.max) (wv x) = wv (~~~x) := by
  rw [if_neg (by decide)]; exact v_not x
attribute [local go_sem] v_not_

theorem turn3a (x : Wd) (b : Nat) (w : World) (hb : b = w.heap.size) : Calls Tryd.prog 104 #[.int .u32 (wv x), .slice (some ⟨b, 0, none⟩) 3 3] (w.alloc (.cells #[.int .i64 6, .int .i64 11, .int .i64 25] 3)) fun e w' => e = .returned (.int .u32 (wv (turnR x [6, 11, 25]))) ∧ w.alloc (.cells #[.int .i64 6, .int .i64 11, .int .i64 25] 3) = w' :=
  turn3 x 6 11 25 (by decide) (by decide) (by decide) _ _ (cell_new hb (by simp)) (cell_new hb (by simp)) (cell_new hb (by simp))

theorem turn3b (x : Wd) (b : Nat) (w : World) (hb : b = w.heap.size) : Calls Tryd.prog 104 #[.int .u32 (wv x), .slice (some ⟨b, 0, none⟩) 3 3] (w.alloc (.cells #[.int .i64 2, .int .i64 13, .int .i64 22] 3)) fun e w' => e = .returned (.int .u32 (wv (turnR x [2, 13, 22]))) ∧ w.alloc (.cells #[.int .i64 2, .int .i64 13, .int .i64 22] 3) = w' :=
  turn3 x 2 13 22 (by decide) (by decide) (by decide) _ _ (cell_new hb (by simp)) (cell_new hb (by simp)) (cell_new hb (by simp))

theorem turn3b_drew (x : Wd) (b : Nat) (w : World) (hb : b = w.heap.size) : Calls Tryd.prog 104 #[.int .u32 (wv x), .slice (some ⟨b, 0, none⟩) 3 3] (w.alloc (.cells #[.int .i64 2, .int .i64 13, .int .i64 22] 3)).drew fun e w' => e = .returned (.int .u32 (wv (turnR x [2, 13, 22]))) ∧ (w.alloc (.cells #[.int .i64 2, .int .i64 13, .int .i64 22] 3)).drew = w' :=
  turn3 x 2 13 22 (by decide) (by decide) (by decide) _ _ (cell_drewN (m := 1) (cell_new hb (by simp))) (cell_drewN (m := 1) (cell_new hb (by simp))) (cell_drewN (m := 1) (cell_new hb (by simp)))

set_option maxRecDepth 10000 in
set_option maxHeartbeats 2000000 in
theorem mix_any (l : List Wd) (hl : l.length = 8) (bs : List UInt8) (hb : bs.length = 64) (b off c : Nat) {W w : World} {I : Nat → Option Obj} {F : List (Nat × Obj)} (hst : St W w I F)
    (hc : ∀ k, k < 64 → ∀ w', St W w' I F → w'.cell? ⟨b, off + k, none⟩ = some (.int .u8 ((bs.getD k 0).toNat : Int))) (hcap : 64 ≤ c) :
    Calls Tryd.prog 89 #[.agg (part 8 l), .slice (some ⟨b, off, none⟩) 64 c] w fun e w' => e = .returned (.agg (part 8 (mixW l bs))) ∧ St W w' I F := by
  have hst2 : St W ((w.alloc (.cells (part 8 l) 129)).alloc (.cells (part 8 []) 129)) I ([(w.heap.size + 1, .cells (part 8 []) 129), (w.heap.size, .cells (part 8 l) 129)] ++ F) := by
    simpa using (hst.alloc (.cells (part 8 l) 129)).alloc (.cells (part 8 []) 129)
  obtain ⟨s0, s1, s2, s3, s4, s5, s6, s7, rfl⟩ := eight l hl
  have ep : part 8 [s0, s1, s2, s3, s4, s5, s6, s7] = #[.int .u32 (wv s0), .int .u32 (wv s1), .int .u32 (wv s2), .int .u32 (wv s3), .int .u32 (wv s4), .int .u32 (wv s5), .int .u32 (wv s6), .int .u32 (wv s7)] := rfl
  rw [ep] at hst2 ⊢
  generalize hg2 : w.heap.size = g2 at *
  have Hg := Lib.hid hg2; clear hg2
  go_enter Tryd.func89, Tryd.ntmps89
  go_wp2_with fail
  rw [Hg.out]
  refine (spread_any bs hb b off c hst2 (fun k hk w' h => hc k hk w' h.weaken) hcap).mono ?_
  rintro e w3 ⟨rfl, hst3⟩
  go_wp2_with fail
  refine (table_any hst3).mono ?_
  rintro e w4 ⟨rfl, hst4⟩
  generalize w3.heap.size = gk at *
  have hst5 := hst4.alloc (.cells (part 64 []) 154)
  have z0 : (part 64 []).size = 64 := part_size 64 _ (by simp)
  have z1 : (part 64 (sched bs)).size = 64 := part_size 64 _ (by rw [sched, schedTo_len]; omega)
  have i1 : (Tryd.prog.info? 154).map (·.size) = some (part 64 (sched bs)).size := by rw [z1]; kernel_rfl
  have o1 : (part 64 (sched bs)).all (·.oneCell') = true := by
    rw [part, sched, schedTo_len]
    exact all_oneCell_toArray (by simp [wval, Value.oneCell'])
  have ew : setMany (part 64 []) 0 (part 64 (sched bs)).toList = part 64 (sched bs) := by rw [setMany_whole _ _ (by simp [z0, z1])]
  have f1 : 0 + (part 64 (sched bs)).size ≤ (part 64 []).size := by omega
  rw [zero64_cells] at hst5 ew f1
  have Z1 := Lib.hid z1; have EW := Lib.hid ew
  clear z1 z0 ew
  go_wp2_with ((with_reducible refine wpList_store_st rfl 154 (.tmp 5) (.tmp 15) rfl (off := 0) (part 64 (sched bs)) rfl rfl hst5 f1 i1 o1 ?_); intro w6 hst6; refine Hid.out ?_)
  rw [EW.out] at hst6
  clear hst5 hst4 hst3 hst2
  refine Lib.hid ?_
  generalize w4.heap.size = gw at *
  have hst6' : St W w6 I ((g2, .cells #[.int .u32 (wv s0), .int .u32 (wv s1), .int .u32 (wv s2), .int .u32 (wv s3), .int .u32 (wv s4), .int .u32 (wv s5), .int .u32 (wv s6), .int .u32 (wv s7)] 129) :: ((gw, .cells (part 64 (sched bs)) 154) :: (gk, .cells (part 64 kTab) 154) :: (g2 + 1, .cells (part 8 []) 129) :: F)) := St.swap (A := [(gw, _), (gk, _), (g2 + 1, _)]) (B := [(g2, _)]) hst6
  have hq0 := hst6'.cell (g := g2) (cs := #[.int .u32 (wv s0), .int .u32 (wv s1), .int .u32 (wv s2), .int .u32 (wv s3), .int .u32 (wv s4), .int .u32 (wv s5), .int .u32 (wv s6), .int .u32 (wv s7)]) (t := 129) (fr := (0, 0)) (by simp)
  have q0 : w6.cell? ⟨g2, 0, none⟩ = some (.int .u32 (wv s0)) := hq0 0
  have q1 : w6.cell? ⟨g2, 1, none⟩ = some (.int .u32 (wv s1)) := hq0 1
  have q2 : w6.cell? ⟨g2, 2, none⟩ = some (.int .u32 (wv s2)) := hq0 2
  have q3 : w6.cell? ⟨g2, 3, none⟩ = some (.int .u32 (wv s3)) := hq0 3
  have q4 : w6.cell? ⟨g2, 4, none⟩ = some (.int .u32 (wv s4)) := hq0 4
  have q5 : w6.cell? ⟨g2, 5, none⟩ = some (.int .u32 (wv s5)) := hq0 5
  have q6 : w6.cell? ⟨g2, 6, none⟩ = some (.int .u32 (wv s6)) := hq0 6
  have q7 : w6.cell? ⟨g2, 7, none⟩ = some (.int .u32 (wv s7)) := hq0 7
  clear hq0
  have hst7 : St W (w6.alloc (.cells #[.int .u32 (wv s0), .int .u32 (wv s1), .int .u32 (wv s2), .int .u32 (wv s3), .int .u32 (wv s4), .int .u32 (wv s5), .int .u32 (wv s6), .int .u32 (wv s7)] 129)) I ([(w6.heap.size, .cells (part 8 [s0, s1, s2, s3, s4, s5, s6, s7]) 129)] ++ ((g2, .cells (part 8 [s0, s1, s2, s3, s4, s5, s6, s7]) 129) :: (gw, .cells (part 64 (sched bs)) 154) :: (gk, .cells (part 64 kTab) 154) :: (g2 + 1, .cells (part 8 []) 129) :: F)) := by
    rw [ep]
    exact hst6'.alloc _
  go_wp2_with fail
  clear hst6 hst6' q0 q1 q2 q3 q4 q5 q6 q7 i1 o1 f1 ep
  generalize w6.heap.size = gx at *
  have HL := Lib.hid hl; clear hl
  have HB := Lib.hid hc; clear hc
  go_loopw [18] (fun i wr => ∃ t : Nat, t ≤ 64 ∧ i = .int .i64 t ∧ St W wr I ([(gx, .cells (part 8 (roundsTo [s0, s1, s2, s3, s4, s5, s6, s7] (sched bs) t)) 129)] ++ ((g2, .cells (part 8 [s0, s1, s2, s3, s4, s5, s6, s7]) 129) :: (gw, .cells (part 64 (sched bs)) 154) :: (gk, .cells (part 64 kTab) 154) :: (g2 + 1, .cells (part 8 []) 129) :: F))) (fun i _ => 64 - (intOf i).toNat)
  case atStart => exact ⟨0, by omega, rfl, hst7⟩
  case round =>
    obtain ⟨t, ht, rfl, hs⟩ := hrel
    clear hst7
    by_cases h64 : t < 64
    · have hx8 := roundsTo_len [s0, s1, s2, s3, s4, s5, s6, s7] (sched bs) rfl t
      have hnx : roundsTo [s0, s1, s2, s3, s4, s5, s6, s7] (sched bs) (t + 1) = roundF (roundsTo [s0, s1, s2, s3, s4, s5, s6, s7] (sched bs) t) (kTab.getD t 0) ((sched bs).getD t 0) := rfl
      obtain ⟨x0, x1, x2, x3, x4, x5, x6, x7, hx⟩ := eight _ hx8
      rw [hx] at hs hnx
      have HNX := Lib.hid hnx; clear hx hx8 hnx
      have hq := hs.cell (g := gx) (cs := part 8 [x0, x1, x2, x3, x4, x5, x6, x7]) (t := 129) (fr := (0, 0)) (by simp)
      have q0 : wr.cell? ⟨gx, 0, none⟩ = some (.int .u32 (wv x0)) := hq 0
      have q1 : wr.cell? ⟨gx, 1, none⟩ = some (.int .u32 (wv x1)) := hq 1
      have q2 : wr.cell? ⟨gx, 2, none⟩ = some (.int .u32 (wv x2)) := hq 2
      have q4 : wr.cell? ⟨gx, 4, none⟩ = some (.int .u32 (wv x4)) := hq 4
      have q5 : wr.cell? ⟨gx, 5, none⟩ = some (.int .u32 (wv x5)) := hq 5
      have q6 : wr.cell? ⟨gx, 6, none⟩ = some (.int .u32 (wv x6)) := hq 6
      have q7 : wr.cell? ⟨gx, 7, none⟩ = some (.int .u32 (wv x7)) := hq 7
      have qk : wr.cell? ⟨gk, t, none⟩ = some (.int .u32 (wv (kTab.getD t 0))) := by
        rw [hs.cell (g := gk) (cs := part 64 kTab) (t := 154) (fr := (0, 0)) (by simp)]
        exact part_get 64 _ t (by rw [kTab_len]; omega)
      have qw : wr.cell? ⟨gw, t, none⟩ = some (.int .u32 (wv ((sched bs).getD t 0))) := by
        rw [hs.cell (g := gw) (cs := part 64 (sched bs)) (t := 154) (fr := (0, 0)) (by simp)]
        exact part_get 64 _ t (by rw [sched, schedTo_len]; omega)
      clear hq
      generalize hkk : kTab.getD t 0 = kk at *
      generalize hww : (sched bs).getD t 0 = ww at *
      have HKK := Lib.hid hkk; have HWW := Lib.hid hww; clear hkk hww
      have tl : (t : Int) < 64 := by omega
      have zx : gx < wr.heap.size := hs.lt (p := (gx, .cells (part 8 [x0, x1, x2, x3, x4, x5, x6, x7]) 129)) (by simp)
      have zk : gk < wr.heap.size := hs.lt (p := (gk, .cells (part 64 kTab) 154)) (by simp)
      have zw : gw < wr.heap.size := hs.lt (p := (gw, .cells (part 64 (sched bs)) 154)) (by simp)
      go_wp2_with fail
      go_quiet (fail)
      go_wp2_with fail
      go_region_held3 (fun w' => w'.cell? ⟨gx, 7, none⟩ = some (.int .u32 (wv x7)) ∧ w'.cell? ⟨gx, 5, none⟩ = some (.int .u32 (wv x5)) ∧ w'.cell? ⟨gx, 6, none⟩ = some (.int .u32 (wv x6)) ∧ w'.cell? ⟨gk, t, none⟩ = some (.int .u32 (wv kk)) ∧ w'.cell? ⟨gw, t, none⟩ = some (.int .u32 (wv ww))) (first | exact ⟨q7, q5, q6, qk, qw⟩ | exact ⟨cell_old q7, cell_old q5, cell_old q6, cell_old qk, cell_old qw⟩)
        (first
        | (go_at_call 104; (with_reducible refine (turn3a x4 _ _ ?_).mono ?_); (first | rfl | simp); rintro e w5 ⟨rfl, rfl⟩; generalize hR : turnR x4 [6, 11, 25] = r1; have HR := Lib.hid hR; clear hR; dsimp only))
      go_wp2_with fail
      have hs8 := (hs.drew (nq + 1)).alloc_ (Obj.cells #[Value.int IntKind.i64 6, Value.int IntKind.i64 11, Value.int IntKind.i64 25] 3)
      have p1 := cell_old (o := Obj.cells #[Value.int IntKind.i64 6, Value.int IntKind.i64 11, Value.int IntKind.i64 25] 3) (cell_drewN (m := nq + 1) q1)
      have p2 := cell_old (o := Obj.cells #[Value.int IntKind.i64 6, Value.int IntKind.i64 11, Value.int IntKind.i64 25] 3) (cell_drewN (m := nq + 1) q2)
      generalize World.alloc _ _ = w8 at *
      clear q0 q1 q2 q4 q5 q6 q7 qk qw
      go_region_held3 (fun w' => w'.cell? ⟨gx, 1, none⟩ = some (.int .u32 (wv x1)) ∧ w'.cell? ⟨gx, 2, none⟩ = some (.int .u32 (wv x2))) (first | exact ⟨p1, p2⟩ | exact ⟨cell_drewN (m := 1) (cell_old p1), cell_drewN (m := 1) (cell_old p2)⟩)
        (first
        | (go_at_call 104; (with_reducible refine (turn3b_drew x0 _ _ ?_).mono ?_); (first | rfl | simp); rintro e w5 ⟨rfl, rfl⟩; generalize hR : turnR x0 [2, 13, 22] = r2; have HR2 := Lib.hid hR; clear hR; dsimp only))
      go_wp2_with fail
      have hs9 := (hs8.alloc_ (Obj.cells #[Value.int IntKind.i64 2, Value.int IntKind.i64 13, Value.int IntKind.i64 22] 3)).drew1
      generalize World.drew _ = w9 at *
      clear hs hs8 p1 p2
      refine wp_region_quiet_tail 2 (by kernel_rfl) (by kernel_rfl) ?_
      simp only [List.take_succ_cons, List.take_zero, List.drop_succ_cons, List.drop_zero]
      repeat (go_big_quiet_step (fail))
      refine wpQuiet_nil ?_
      rintro _ ⟨nq2, rfl⟩
      have hs10 := hs9.drew nq2
      generalize World.drewN w9 nq2 = w10 at *
      clear hs9
      have hg10 : w10.heap[gx]? = some (.cells (part 8 [x0, x1, x2, x3, x4, x5, x6, x7]) 129 (0, 0)) := hs10.own (gx, _) (by simp)
      have hc10 : ∀ j v, ([.int .u32 (wv x0), .int .u32 (wv x1), .int .u32 (wv x2), .int .u32 (wv x3), .int .u32 (wv x4), .int .u32 (wv x5), .int .u32 (wv x6)] : List Value)[j]? = some v → w10.cell? ((⟨gx, 0, none⟩ : Addr).add j) = some v := by
        intro j v hv
        have hj : j < 7 := (List.getElem?_eq_some_iff.1 hv).1
        have hq := hs10.cell (g := gx) (cs := part 8 [x0, x1, x2, x3, x4, x5, x6, x7]) (t := 129) (fr := (0, 0)) (by simp)
        rw [show (⟨gx, 0, none⟩ : Addr).add j = ⟨gx, j, none⟩ by by_cases h : j = 0 <;> simp [Addr.add, h], hq j]
        rcases (show j = 0 ∨ j = 1 ∨ j = 2 ∨ j = 3 ∨ j = 4 ∨ j = 5 ∨ j = 6 by omega) with rfl | rfl | rfl | rfl | rfl | rfl | rfl <;> exact hv
      refine wpList_copy_own rfl (.tmp 71) (.tmp 72) 159 159 rfl 124 (by kernel_rfl) (by kernel_rfl) gx 1 7 7 ⟨gx, 0, none⟩ 7 8 rfl rfl (part 8 [x0, x1, x2, x3, x4, x5, x6, x7]) 129 hg10 [.int .u32 (wv x0), .int .u32 (wv x1), .int .u32 (wv x2), .int .u32 (wv x3), .int .u32 (wv x4), .int .u32 (wv x5), .int .u32 (wv x6)] rfl hc10 (by rw [part_size 8 _ (by simp)]; simp) (by simp [Value.oneCell']) ?_
      have hs11 := hs10.setRow #[.int .u32 (wv x0), .int .u32 (wv x0), .int .u32 (wv x1), .int .u32 (wv x2), .int .u32 (wv x3), .int .u32 (wv x4), .int .u32 (wv x5), .int .u32 (wv x6)]
      have er : ((part 8 [x0, x1, x2, x3, x4, x5, x6, x7]).toList.take 1 ++ ([Value.int .u32 (wv x0), Value.int .u32 (wv x1), Value.int .u32 (wv x2), Value.int .u32 (wv x3), Value.int .u32 (wv x4), Value.int .u32 (wv x5), Value.int .u32 (wv x6)] ++ (part 8 [x0, x1, x2, x3, x4, x5, x6, x7]).toList.drop (1 + [Value.int .u32 (wv x0), Value.int .u32 (wv x1), Value.int .u32 (wv x2), Value.int .u32 (wv x3), Value.int .u32 (wv x4), Value.int .u32 (wv x5), Value.int .u32 (wv x6)].length))).toArray = #[Value.int .u32 (wv x0), Value.int .u32 (wv x0), Value.int .u32 (wv x1), Value.int .u32 (wv x2), Value.int .u32 (wv x3), Value.int .u32 (wv x4), Value.int .u32 (wv x5), Value.int .u32 (wv x6)] := rfl
      rw [er]
      clear er hg10 hc10 hs10
      generalize World.setRow _ _ _ = w11 at *
      have hq := hs11.cell (g := gx) (cs := #[.int .u32 (wv x0), .int .u32 (wv x0), .int .u32 (wv x1), .int .u32 (wv x2), .int .u32 (wv x3), .int .u32 (wv x4), .int .u32 (wv x5), .int .u32 (wv x6)]) (t := 129) (fr := (0, 0)) (by simp)
      have q4 : w11.cell? ⟨gx, 4, none⟩ = some (.int .u32 (wv x3)) := hq 4
      have q0 : w11.cell? ⟨gx, 0, none⟩ = some (.int .u32 (wv x0)) := hq 0
      clear hq
      have hf := hs11.frozen (g := gx) (cs := #[.int .u32 (wv x0), .int .u32 (wv x0), .int .u32 (wv x1), .int .u32 (wv x2), .int .u32 (wv x3), .int .u32 (wv x4), .int .u32 (wv x5), .int .u32 (wv x6)]) (t := 129) (by simp)
      have f4 := hf 4
      have f0 := hf 0
      clear hf
      go_wp2_with fail
      have e1 : rOne [x0, x1, x2, x3, x4, x5, x6, x7] kk ww = (x7 + r1 + (x4 &&& x5 ^^^ ~~~x4 &&& x6) + kk + ww) := by rw [← HR.out]; rfl
      have e2 : rTwo [x0, x1, x2, x3, x4, x5, x6, x7] = (r2 + (x0 &&& x1 ^^^ x0 &&& x2 ^^^ x1 &&& x2)) := by rw [← HR2.out]; rfl
      have hfin := (hs11.set (A := []) 4 (.int .u32 (wv (x3 + (x7 + r1 + (x4 &&& x5 ^^^ ~~~x4 &&& x6) + kk + ww))))).set (A := []) 0 (.int .u32 (wv ((x7 + r1 + (x4 &&& x5 ^^^ ~~~x4 &&& x6) + kk + ww) + (r2 + (x0 &&& x1 ^^^ x0 &&& x2 ^^^ x1 &&& x2)))))
      have E1 := Lib.hid e1; have E2 := Lib.hid e2; clear e1 e2
      go_roundw
      case rel =>
        refine ⟨t + 1, by omega, by go_num, ?_⟩
        rw [HNX.out, roundF]
        try rw [HKK.out, HWW.out]
        rw [E1.out, E2.out]
        exact hfin
      case measure => simp [intOf]; omega
    · have : t = 64 := by omega
      subst this
      have hx8 := roundsTo_len [s0, s1, s2, s3, s4, s5, s6, s7] (sched bs) rfl 64
      generalize hxr : roundsTo [s0, s1, s2, s3, s4, s5, s6, s7] (sched bs) 64 = xs at *
      have HXR := Lib.hid hxr; have HX8 := Lib.hid hx8; clear hxr hx8
      have hs2 : St W wr I ([(g2, .cells (part 8 (addTo [s0, s1, s2, s3, s4, s5, s6, s7] xs 0)) 129)] ++ ((gx, .cells (part 8 xs) 129) :: (gw, .cells (part 64 (sched bs)) 154) :: (gk, .cells (part 64 kTab) 154) :: (g2 + 1, .cells (part 8 []) 129) :: F)) := St.swap (A := [(gx, _)]) (B := [(g2, _)]) hs
      clear hs
      go_wp2_with fail
      go_loopw [84] (fun i wr => ∃ t : Nat, t ≤ 8 ∧ i = .int .i64 t ∧ St W wr I ([(g2, .cells (part 8 (addTo [s0, s1, s2, s3, s4, s5, s6, s7] xs t)) 129)] ++ ((gx, .cells (part 8 xs) 129) :: (gw, .cells (part 64 (sched bs)) 154) :: (gk, .cells (part 64 kTab) 154) :: (g2 + 1, .cells (part 8 []) 129) :: F))) (fun i _ => 8 - (intOf i).toNat)
      case atStart => exact ⟨0, by omega, rfl, hs2⟩
      case round =>
        obtain ⟨i, hi, rfl, hs⟩ := hrel
        clear hs2
        by_cases h8 : i < 8
        · have ql : wr.cell? ⟨g2, i, none⟩ = some (.int .u32 (wv ([s0, s1, s2, s3, s4, s5, s6, s7].getD i 0))) := by
            rw [hs.cell (g := g2) (cs := part 8 (addTo [s0, s1, s2, s3, s4, s5, s6, s7] xs i)) (t := 129) (fr := (0, 0)) (by simp), part_get 8 _ i (by rw [addTo_len]; simpa using h8), addTo_get _ _ _ _ (Nat.le_refl i)]
            rfl
          have qx : wr.cell? ⟨gx, i, none⟩ = some (.int .u32 (wv (xs.getD i 0))) := by
            rw [hs.cell (g := gx) (cs := part 8 xs) (t := 129) (fr := (0, 0)) (by simp)]
            exact part_get 8 _ i (by rw [HX8.out]; exact h8)
          have f2 := hs.frozen (g := g2) (cs := part 8 (addTo [s0, s1, s2, s3, s4, s5, s6, s7] xs i)) (t := 129) (by simp) i
          have hset : ∀ m, St W ((wr.drewN m).setCell ⟨g2, i, none⟩ (.int .u32 (wv ([s0, s1, s2, s3, s4, s5, s6, s7].getD i 0 + xs.getD i 0)))) I ([(g2, .cells (part 8 (addTo [s0, s1, s2, s3, s4, s5, s6, s7] xs (i + 1))) 129)] ++ ((gx, .cells (part 8 xs) 129) :: (gw, .cells (part 64 (sched bs)) 154) :: (gk, .cells (part 64 kTab) 154) :: (g2 + 1, .cells (part 8 []) 129) :: F)) := fun m => by
            rw [addTo, ← part_set 8 _ _ _ (by rw [addTo_len]; rfl)]
            exact (hs.drew m).set (A := []) i _
          have HSET := Lib.hid hset; clear hset hs
          generalize [s0, s1, s2, s3, s4, s5, s6, s7].getD i 0 = la at *
          generalize xs.getD i 0 = xa at *
          have il : (i : Int) < 8 := by omega
          go_wp2_with fail
          refine wp_region_quiet_tail 8 (by kernel_rfl) (by kernel_rfl) ?_
          simp only [List.take_succ_cons, List.take_zero, List.drop_succ_cons, List.drop_zero]
          repeat (go_big_quiet_step (fail))
          refine wpQuiet_nil ?_
          rintro _ ⟨nq, rfl⟩
          go_wp2_with fail
          go_roundw
          case rel =>
            refine ⟨i + 1, by omega, by go_num, ?_⟩
            exact HSET.out _
          case measure => simp [intOf]; omega
        · have : i = 8 := by omega
          subst this
          have hs' : St W wr I ((g2 + 1, .cells (part 8 []) 129) :: ([(g2, .cells (part 8 (addTo [s0, s1, s2, s3, s4, s5, s6, s7] xs 8)) 129), (gx, .cells (part 8 xs) 129), (gw, .cells (part 64 (sched bs)) 154), (gk, .cells (part 64 kTab) 154)] ++ F)) := St.swap (A := [(g2, _), (gx, _), (gw, _), (gk, _)]) (B := [(g2 + 1, _)]) hs
          have hp : (g2, Obj.cells (part 8 (addTo [s0, s1, s2, s3, s4, s5, s6, s7] xs 8)) 129 (0, 0)) ∈ [(g2, Obj.cells (part 8 (addTo [s0, s1, s2, s3, s4, s5, s6, s7] xs 8)) 129)] ++ ((gx, .cells (part 8 xs) 129) :: (gw, .cells (part 64 (sched bs)) 154) :: (gk, .cells (part 64 kTab) 154) :: (g2 + 1, .cells (part 8 []) 129) :: F) := by simp
          have z1 : (part 8 (addTo [s0, s1, s2, s3, s4, s5, s6, s7] xs 8)).size = 8 := part_size 8 _ (by rw [addTo_len]; simp)
          have z0 : (part 8 []).size = 8 := part_size 8 _ (by simp)
          have hy : ∀ j, j < (part 8 (addTo [s0, s1, s2, s3, s4, s5, s6, s7] xs 8)).size → (part 8 (addTo [s0, s1, s2, s3, s4, s5, s6, s7] xs 8))[0 + j]? = (part 8 (addTo [s0, s1, s2, s3, s4, s5, s6, s7] xs 8))[j]? := fun j _ => by rw [Nat.zero_add]
          have i1 : (Tryd.prog.info? 129).map (·.size) = some (part 8 (addTo [s0, s1, s2, s3, s4, s5, s6, s7] xs 8)).size := by rw [z1]; kernel_rfl
          have o1 : (part 8 (addTo [s0, s1, s2, s3, s4, s5, s6, s7] xs 8)).all (·.oneCell') = true := by
            rw [part, addTo_len]
            exact all_oneCell_toArray (by simp [wval, Value.oneCell'])
          have ew : setMany (part 8 []) 0 (part 8 (addTo [s0, s1, s2, s3, s4, s5, s6, s7] xs 8)).toList = part 8 (addTo [s0, s1, s2, s3, s4, s5, s6, s7] xs 8) := by rw [setMany_whole _ _ (by simp [z0, z1])]
          have f1 : 0 + (part 8 (addTo [s0, s1, s2, s3, s4, s5, s6, s7] xs 8)).size ≤ (part 8 []).size := by omega
          have hCS : part 8 (addTo [s0, s1, s2, s3, s4, s5, s6, s7] xs 8) = part 8 (mixW [s0, s1, s2, s3, s4, s5, s6, s7] bs) := by
            rw [mixW, HXR.out]
            obtain ⟨y0, y1, y2, y3, y4, y5, y6, y7, rfl⟩ := eight xs HX8.out
            rfl
          have Z1 := Lib.hid z1; have Z0 := Lib.hid z0; have EW := Lib.hid ew; have HCS := Lib.hid hCS
          clear z1 z0 ew hCS
          generalize part 8 (addTo [s0, s1, s2, s3, s4, s5, s6, s7] xs 8) = CS at *
          generalize part 8 [] = C0 at *
          go_wp2_with (first
            | (with_reducible refine wpList_load_st rfl 129 (.tmp 2) rfl (g := g2) (off := 0) rfl hs hp CS hy _ Tryd.underlying129 rfl i1 ?_)
            | (with_reducible refine wpList_store_st rfl 129 (.tmp 4) (.tmp 96) rfl (g := g2 + 1) (off := 0) CS rfl rfl hs' f1 i1 o1 ?_; intro w9 h9))
          rw [EW.out] at h9
          clear hs hs' hp
          go_wp2_with fail
          refine bodyPost_ret (results_cell_row rfl _ w9 (g2 + 1) 129 CS (0, 0) _ rfl (h9.own (g2 + 1, .cells CS 129 (0, 0)) (by simp)) Tryd.underlying129 (by kernel_rfl) i1) rfl ?_
          exact ⟨by rw [HCS.out], h9.weaken (A := [_, _, _, _, _])⟩
end Go.Proofs.YtfbffmckmchbbaaDoor
