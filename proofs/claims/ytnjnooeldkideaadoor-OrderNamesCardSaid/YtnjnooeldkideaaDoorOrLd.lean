/- order: what a job wrote is to be tried. -/
import Derived.Test.YtnjnooeldkideaaDoorOrCe
import Derived.OwnWalk
import Derived.Deep.RegionHeld3
import Derived.Test.YtnjnooeldkideaaDoorMOrT
namespace Go.Proofs.YtnjnooeldkideaaDoor
set_option linter.unusedVariables false
set_option linter.unusedSimpArgs false
open Go.RowKit Go.Lib Go.Deep
section
variable {W w : World} {J : Nat → Option Obj} {t : Tb} {F : List (Nat × Obj)}
variable {m : Md} {gm : Nat} {nv : Value}
def landsM (m : Md) (s : Slt) : Option Md := if (s.tr != m.tries) = true ∨ decide (s.ver < m.job.floor) = true then none else if (landT m.known m.job.slot s).2 = 0 then (if (applyT m.known (landT m.known m.job.slot s).1).2 = 0 then some { m with known := (applyT m.known (landT m.known m.job.slot s).1).1 } else none) else none
theorem slt_info {s : Slt} (ok : s.Ok) : (Tryd.prog.info? 29).map (·.size) = some s.cells.size := by rw [ok.len]; kernel_rfl
set_option maxRecDepth 100000 in
set_option maxHeartbeats 8000000 in
theorem o_lands (ok : m.Ok) (s : Slt) (sok : s.Ok) (h : St W w J ((gm, .cells (m.cells nv) 71 (0, 0)) :: F)) :
  Calls Tryd.prog 46 #[.pointer (some ⟨gm, 0, none⟩), s.val] w fun e' w' => e' = .returned (.bool (landsM m s).isSome) ∧ St W w' J ((gm, .cells (((landsM m s).getD m).cells nv) 71 (0, 0)) :: F) := by
 have h1 := h.alloc (.cells s.cells 29)
 obtain ⟨g, hg⟩ : ∃ g, w.heap.size = g := ⟨_, rfl⟩
 rw [hg] at h1
 have md := h1.md (nv := nv) (T := 71) (fr := (0, 0)) ok (g := gm) (by simp)
 have m76 := md.tries; have m82 := md.floor
 have s1c := h1.cell (g := g) (cs := s.cells) (t := 29) (fr := (0, 0)) (by simp) 1
 have s2c := h1.cell (g := g) (cs := s.cells) (t := 29) (fr := (0, 0)) (by simp) 2
 rw [Slt.at1] at s1c
 rw [Slt.at2] at s2c
 have si := slt_info sok
 have ti := tb_info ok.known
 have kl := fun (v : World) (X : List (Nat × Obj)) (hv : St W v J X) => b_land ok.known m.job.slot s sok hv
 have ff := form_land (t := m.known) m.job.slot s sok ok.job.l0 ok.job.l1
 have ka := fun (A' : Option Addr) (c' : Nat) (L' : List (Nat × Obj)) (hr : Row 125 40 (.slice A' (landT m.known m.job.slot s).1.length c') (landT m.known m.job.slot s).1.length (cgs (landT m.known m.job.slot s).1) L') (v : World) (X : List (Nat × Obj)) (hv : St W v J (L' ++ X)) => b_apply ok.known ff.1 hr ff.2 hv
 have tok := applyT_ok ok.known ff.1
 have hD : landsM m s = if (s.tr != m.tries) = true ∨ decide (s.ver < m.job.floor) = true then none else if (landT m.known m.job.slot s).2 = 0 then (if (applyT m.known (landT m.known m.job.slot s).1).2 = 0 then some { m with known := (applyT m.known (landT m.known m.job.slot s).1).1 } else none) else none := rfl
 generalize landsM m s = RES at *
 have fs := fun (v : World) (X : List (Nat × Obj)) (hv : St W v J X) (hx : (gm, Obj.cells (m.cells nv) 71 (0, 0)) ∈ X) (hy : (g, Obj.cells s.cells 29 (0, 0)) ∈ X) => (⟨(hv.md ok hx).tb.all, (hv.md ok hx).slot, fun j u hj => (by rw [Nat.zero_add, hv.cell hy j]; simpa using hj)⟩ : v.rangeAt gm 0 m.known.cells.toList ∧ v.cell? ⟨gm, 81, none⟩ = some (.int .i64 m.job.slot) ∧ v.rangeAt g 0 s.cells.toList)
 have p1 := Md.put_known ok.known nv (applyT m.known (landT m.known m.job.slot s).1).1 tok
 have msz := Md.size ok.known nv
 generalize hT2 : applyT m.known (landT m.known m.job.slot s).1 = T2 at *
 generalize landT m.known m.job.slot s = T1 at *
 unfold CPost at kl
 unfold APost at ka
 unfold Slt.val at *
 unfold Tb.val at *
 obtain ⟨x1, hx1⟩ : ∃ b, (s.tr != m.tries) = b := ⟨_, rfl⟩
 obtain ⟨x2, hx2⟩ : ∃ b, decide (s.ver < m.job.floor) = b := ⟨_, rfl⟩
 have hx1' := hx1
 have hx2' := hx2
 rw [hx1, hx2] at hD
 obtain ⟨SX, hSX⟩ : ∃ y, s.cells = y := ⟨_, rfl⟩
 obtain ⟨MC, hMC⟩ : ∃ y, m.cells nv = y := ⟨_, rfl⟩
 obtain ⟨CT, hCT⟩ : ∃ y, m.known.cells = y := ⟨_, rfl⟩
 obtain ⟨str, hstr⟩ : ∃ y, s.tr = y := ⟨_, rfl⟩
 obtain ⟨sver, hsver⟩ : ∃ y, s.ver = y := ⟨_, rfl⟩
 obtain ⟨mtr, hmtr⟩ : ∃ y, m.tries = y := ⟨_, rfl⟩
 obtain ⟨mfl, hmfl⟩ : ∃ y, m.job.floor = y := ⟨_, rfl⟩
 obtain ⟨msl, hmsl⟩ : ∃ y, m.job.slot = y := ⟨_, rfl⟩
 have fin0 : RES = none → ∀ (v : World) (X : List (Nat × Obj)), St W v J (X ++ ((gm, .cells MC 71 (0, 0)) :: F)) → (Ending.returned (.bool false) = .returned (.bool RES.isSome) ∧ St W v J ((gm, .cells ((RES.getD m).cells nv) 71 (0, 0)) :: F)) := fun hn v X hv => by
  subst hn
  exact ⟨rfl, by rw [show (none.getD m : Md).cells nv = MC from hMC]; exact hv.weaken⟩
 have fin1 : RES = some { m with known := T2.1 } → ∀ (v : World) (X : List (Nat × Obj)), St W v J (X ++ ((gm, .cells (setMany MC 0 T2.1.cells.toList) 71 (0, 0)) :: F)) → (Ending.returned (.bool true) = .returned (.bool RES.isSome) ∧ St W v J ((gm, .cells ((RES.getD m).cells nv) 71 (0, 0)) :: F)) := fun hn v X hv => by
  subst hn
  refine ⟨rfl, ?_⟩
  rw [Option.getD_some]
  rw [← hMC, p1] at hv
  exact hv.weaken
 rw [hSX] at h1 si kl fs s1c s2c m76 m82 ⊢
 rw [hMC] at h1 fs msz
 rw [hCT] at ti kl ka fs
 rw [hmsl] at fs kl
 rw [hstr] at s1c hx1
 rw [hsver] at s2c hx2
 rw [hmtr] at m76 hx1
 rw [hmfl] at m82 hx2
 have tsz := Tb.size tok
 have tai := tb_info tok
 have tao := T2.1.one
 have FIN0 := Lib.hid fin0; have FIN1 := Lib.hid fin1; have H1 := Lib.hid h1; have KL := Lib.hid kl; have KA := Lib.hid ka; have FSx := Lib.hid fs; have HD := Lib.hid hD
 have TI : Hid ((Tryd.prog.info? 32).map (·.size) = some CT.toList.length) := Lib.hid (by rw [Array.length_toList]; exact ti)
 have TI2 := Lib.hid ti
 have SI : Hid ((Tryd.prog.info? 29).map (·.size) = some SX.toList.length) := Lib.hid (by rw [Array.length_toList]; exact si)
 have TAI := Lib.hid tai; have TAO := Lib.hid tao
 have TFIT : Hid (0 + T2.1.cells.size ≤ Tryd.zeroCells32.size) := Lib.hid (by rw [tsz, ztable]; omega)
 have TMANY : Hid (setMany Tryd.zeroCells32 0 T2.1.cells.toList = T2.1.cells) := Lib.hid (by rw [setMany_whole _ _ (by rw [Array.length_toList, tsz, ztable]), Array.toArray_toList])
 have MFIT : Hid (0 + T2.1.cells.size ≤ MC.size) := Lib.hid (by rw [tsz, msz]; omega)
 clear fin0 fin1 h1 h kl ka fs hD ti si tai tao tsz msz p1 md hSX hMC hCT hstr hsver hmtr hmfl hmsl tok ff hT2 ok sok hx1' hx2'
 obtain ⟨TX, hTX⟩ : ∃ y, T2.1.cells = y := ⟨_, rfl⟩
 rw [hTX] at FIN1 TAI TAO TFIT TMANY MFIT KA
 clear hTX
 cases x1 with
 | true =>
  clear hx2 KL KA
  go_enter Tryd.func46, Tryd.ntmps46
  go_wp2_with fail
  go_quiet (fail)
  generalize hw13 : World.drewN _ _ = w13
  have h14 : St W w13 J ((g, .cells SX 29 (0, 0)) :: (gm, .cells MC 71 (0, 0)) :: F) := by rw [← hw13]; exact H1.out.drew _
  clear hw13 H1 m76 m82 s1c s2c
  go_wp2_with fail
  go_ret
  exact FIN0.out (by rw [HD.out]; simp) _ [_] h14
 | false =>
  cases x2 with
  | true =>
   clear KL KA
   go_enter Tryd.func46, Tryd.ntmps46
   go_wp2_with fail
   go_quiet (fail)
   generalize hw13 : World.drewN _ _ = w13
   have h14 : St W w13 J ((g, .cells SX 29 (0, 0)) :: (gm, .cells MC 71 (0, 0)) :: F) := by rw [← hw13]; exact H1.out.drew _
   clear hw13 H1 m76 m82 s1c s2c
   go_wp2_with fail
   go_ret
   exact FIN0.out (by rw [HD.out]; simp) _ [_] h14
  | false =>
   go_enter Tryd.func46, Tryd.ntmps46
   go_wp2_with fail
   go_quiet (fail)
   generalize hw13 : World.drewN _ _ = w13
   have h14 : St W w13 J ((g, .cells SX 29 (0, 0)) :: (gm, .cells MC 71 (0, 0)) :: F) := by rw [← hw13]; exact H1.out.drew _
   clear hw13 H1 m76 m82 s1c s2c hx1 hx2
   have HDW := Lib.hid h14.drew1
   have s1 := FSx.out _ _ HDW.out (by simp) (by simp)
   have HUT := Lib.hid Tryd.underlying32
   have HUS := Lib.hid Tryd.underlying29
   clear h14
   go_wp2_with fail
   refine wp_region_held_drew (S := fun v => v.rangeAt gm 0 CT.toList ∧ v.cell? ⟨gm, 81, none⟩ = some (.int .i64 msl) ∧ v.rangeAt g 0 SX.toList) (by kernel_rfl) s1 (fun hHeld => ?_)
   refine tk op0 (v := ?_) (by kernel_rfl) ?_ (by assumption) ?_ fun _ _ _ h => h
   rotate_left
   ·(refine ya rfl fun w hSw => ?_; (try dsimp only at hSw); go_simp; try with_reducible rfl)
   try simp only [Act.put, pu1, pu2, pu3]
   refine tk op1 (v := ?_) (by kernel_rfl) ?_ (by assumption) ?_ fun _ _ _ h => h
   rotate_left
   ·(refine ya rfl fun w hSw => ?_; (try dsimp only at hSw); go_simp; try with_reducible rfl)
   try simp only [Act.put, pu1, pu2, pu3]
   refine tk op2 (v := ?_) (by kernel_rfl) ?_ (by assumption) ?_ fun _ _ _ h => h
   rotate_left
   ·(refine ya rfl fun w hSw => ?_; (try dsimp only at hSw); go_simp; try with_reducible rfl)
   try simp only [Act.put, pu1, pu2, pu3]
   refine tk op3 (v := ?_) (by kernel_rfl) ?_ (by assumption) ?_ fun _ _ _ h => h
   rotate_left
   ·(((refine yieldsIf_load_mid ?_ 32 (.tmp 28) ?_ gm 0 ?_ CT.toList _ ?_ HUT.out ?_ TI.out) <;> first | rfl | exact fun w h => h.1))
   try simp only [Act.put, pu1, pu2, pu3]
   refine tk op4 (v := ?_) (by kernel_rfl) ?_ (by assumption) ?_ fun _ _ _ h => h
   rotate_left
   ·(refine ya rfl fun w hSw => ?_; (try dsimp only at hSw); go_simp; try with_reducible rfl)
   try simp only [Act.put, pu1, pu2, pu3]
   refine tk op5 (v := ?_) (by kernel_rfl) ?_ (by assumption) ?_ fun _ _ _ h => h
   rotate_left
   ·(refine ya rfl fun w hSw => ?_; (try dsimp only at hSw); go_simp; try with_reducible rfl)
   try simp only [Act.put, pu1, pu2, pu3]
   refine tk op6 (v := ?_) (by kernel_rfl) ?_ (by assumption) ?_ fun _ _ _ h => h
   rotate_left
   ·(refine ya rfl fun w hSw => ?_; (try dsimp only at hSw); go_simp; try with_reducible rfl)
   try simp only [Act.put, pu1, pu2, pu3]
   refine tk op7 (v := ?_) (by kernel_rfl) ?_ (by assumption) ?_ fun _ _ _ h => h
   rotate_left
   ·(refine ya rfl fun w hSw => ?_; (try dsimp only at hSw); go_simp; try with_reducible rfl)
   try simp only [Act.put, pu1, pu2, pu3]
   refine tk op8 (v := ?_) (by kernel_rfl) ?_ (by assumption) ?_ fun _ _ _ h => h
   rotate_left
   ·((refine Or.inl ⟨by rfl, ?_⟩; intro w hSw; obtain ⟨hS1, hS2, hS3⟩ := hSw; go_simp; try with_reducible rfl))
   try simp only [Act.put, pu1, pu2, pu3]
   refine tk op9 (v := ?_) (by kernel_rfl) ?_ (by assumption) ?_ fun _ _ _ h => h
   rotate_left
   ·(((refine yieldsIf_load_mid ?_ 29 (.tmp 3) ?_ g 0 ?_ SX.toList _ ?_ HUS.out ?_ SI.out) <;> first | rfl | exact fun w h => h.2.2))
   try simp only [Act.put, pu1, pu2, pu3]
   refine rd1 (oq op0) (by kernel_rfl) fun K hK => ?_
   go_simp
   ((go_at_call 67; (with_reducible refine (KL.out _ _ HDW.out).mono ?_); rintro e wx ⟨A1, c1, L1, rfl, hr1, hx⟩; dsimp only))
   refine hK.out _ _ ?_ fun hHeld => ?_
   ·(try dsimp only) <;> ((exact FSx.out _ _ hx (by simp) (by simp)))
   clear hK K
   try simp only [Act.put, pu1, pu2, pu3]
   refine tk (oq op1) (v := ?_) (by kernel_rfl) ?_ (by assumption) ?_ fun _ _ _ h => h
   rotate_left
   ·(refine ya rfl fun w hSw => ?_; (try dsimp only at hSw); go_simp; try with_reducible rfl)
   try simp only [Act.put, pu1, pu2, pu3]
   refine tk (oq op2) (v := ?_) (by kernel_rfl) ?_ (by assumption) ?_ fun _ _ _ h => h
   rotate_left
   ·(refine ya rfl fun w hSw => ?_; (try dsimp only at hSw); go_simp; try with_reducible rfl)
   try simp only [Act.put, pu1, pu2, pu3]
   refine tk (oq op3) (v := ?_) (by kernel_rfl) ?_ (by assumption) ?_ fun _ _ _ h => h
   rotate_left
   ·(refine ya rfl fun w hSw => ?_; (try dsimp only at hSw); go_simp; try with_reducible rfl)
   try simp only [Act.put, pu1, pu2, pu3]
   refine tk (oq op4) (v := ?_) (by kernel_rfl) ?_ (by assumption) ?_ fun _ _ _ h => h
   rotate_left
   ·(refine ya rfl fun w hSw => ?_; (try dsimp only at hSw); go_simp; try with_reducible rfl)
   try simp only [Act.put, pu1, pu2, pu3]
   refine tk (oq op5) (v := ?_) (by kernel_rfl) ?_ (by assumption) ?_ fun _ _ _ h => h
   rotate_left
   ·(refine ya rfl fun w hSw => ?_; (try dsimp only at hSw); go_simp; try with_reducible rfl)
   try simp only [Act.put, pu1, pu2, pu3]
   refine wpAnyH_done (by kernel_rfl) ?_ _
   have HX := Lib.hid hx
   have RK := Lib.hid (FSx.out _ _ hx (by simp) (by simp)).1
   have KA2 := Lib.hid (KA.out A1 c1 L1 hr1 _ _ hx)
   clear hx s1 HDW KA KL hr1
   obtain ⟨x3, hx3⟩ : ∃ y, T1.2 = y := ⟨_, rfl⟩
   rw [hx3] at HD ⊢
   by_cases h0 : x3 = 0
   ·subst h0
    go_wp2_with (with_reducible refine wpList_load_midg 45 rfl (by kernel_rfl) 32 (.tmp 44) rfl gm 0 rfl CT _ RK.out Tryd.underlying32 rfl TI2.out ?_)
    refine KA2.out.mono ?_
    rintro e w5 ⟨rfl, h5⟩
    have H5 := Lib.hid (h5.alloc (.cells Tryd.zeroCells32 32))
    clear h5 KA2 RK HX
    obtain ⟨x4, hx4⟩ : ∃ y, T2.2 = y := ⟨_, rfl⟩
    rw [hx4] at HD ⊢
    go_wp2_with (with_reducible refine wpList_store_st rfl 32 (.tmp 7) (.tmp 48) rfl (g := w5.heap.size) (off := 0) TX rfl rfl H5.out TFIT.out TAI.out TAO.out ?_; intro w6 h6; refine Hid.out ?_)
    refine Lib.hid ?_
    rw [TMANY.out] at h6
    obtain ⟨b7, hb7⟩ : ∃ y, w5.heap.size = y := ⟨_, rfl⟩
    rw [hb7] at h6 ⊢
    have R7 : Hid (w6.rangeAt b7 0 TX.toList) := Lib.hid (fun j u hj => by rw [Nat.zero_add, h6.cell (g := b7) (cs := TX) (t := 32) (fr := (0, 0)) (List.mem_cons_self ..) j]; simpa using hj)
    have H6 := Lib.hid (h6.perm (L' := (gm, .cells MC 71 (0, 0)) :: ((b7, .cells TX 32 (0, 0)) :: (g, .cells SX 29 (0, 0)) :: (L1 ++ F))) (perm_count (fun i a => by simp only [List.count_append, List.count_cons, List.count_nil]; omega)))
    clear h6 H5 hb7
    by_cases h4 : x4 = 0
    ·subst h4
     go_wp2_with (first | (with_reducible refine wpList_load_midg 53 rfl (by kernel_rfl) 32 (.tmp 7) rfl b7 0 rfl TX _ R7.out Tryd.underlying32 rfl TAI.out ?_) | (with_reducible refine wpList_store_st rfl 32 (.tmp 55) (.tmp 53) rfl (g := gm) (off := 0) TX rfl rfl H6.out MFIT.out TAI.out TAO.out ?_; intro w8 h8; refine Hid.out ?_))
     refine Lib.hid ?_
     have H8 := Lib.hid h8
     clear h8 H6 R7
     go_wp2_with fail
     go_ret
     exact FIN1.out (by rw [HD.out]; simp) _ ((b7, .cells TX 32 (0, 0)) :: (g, .cells SX 29 (0, 0)) :: L1) (H8.out.perm (perm_count (fun i a => by simp only [List.count_append, List.count_cons, List.count_nil]; omega)))
    ·have hne : (x4 != 0) = true := by simpa using h4
     go_wp2_with fail
     go_ret
     exact FIN0.out (by rw [HD.out]; simp [h4]) _ ((b7, .cells TX 32 (0, 0)) :: (g, .cells SX 29 (0, 0)) :: L1) (H6.out.perm (perm_count (fun i a => by simp only [List.count_append, List.count_cons, List.count_nil]; omega)))
   ·have hne : (x3 != 0) = true := by simpa using h0
    go_wp2_with fail
    go_ret
    exact FIN0.out (by rw [HD.out]; simp [h0]) _ (L1 ++ [(g, .cells SX 29 (0, 0))]) (HX.out.perm (perm_count (fun i a => by simp only [List.count_append, List.count_cons, List.count_nil]; omega)))
end
end Go.Proofs.YtnjnooeldkideaaDoor
