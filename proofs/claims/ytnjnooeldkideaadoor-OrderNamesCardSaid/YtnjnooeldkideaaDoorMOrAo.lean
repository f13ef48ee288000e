/- order: the law's own example: it is answered. the document's Right of a table. the laws' great: is that too much to be looked at? the laws' tooGreat. -/
import Derived.Test.YtnjnooeldkideaaDoorMOrCk
import Derived.OwnWalk
import Derived.Test.YtnjnooeldkideaaDoorMOrK
namespace Go.Proofs.YtnjnooeldkideaaDoor
section
set_option linter.unusedVariables false
set_option linter.unusedSimpArgs false
open Go.RowKit Go.Lib Go.Deep
section
variable {W w : World} {J : Nat → Option Obj} {t : Tb} {F : List (Nat × Obj)}
set_option maxRecDepth 100000 in
theorem run_f1 (w : World) : (Instr.field 32 (.agg alM2.known.cells) 0).run Tryd.prog w = .ok (.agg (gS.cells ++ (bareS 1).cells)) w := by kernel_rfl
set_option maxRecDepth 100000 in
theorem run_f2 (w : World) : (Instr.index 30 (.agg (gS.cells ++ (bareS 1).cells)) (.int .i64 1)).run Tryd.prog w = .ok (.agg (bareS 1).cells) w := by kernel_rfl
set_option maxRecDepth 100000 in
theorem run_f3 (w : World) : (Instr.field 29 (.agg (bareS 1).cells) 0).run Tryd.prog w = .ok (.int .i64 1) w := by kernel_rfl
theorem al_rep : replyM alM [coreB] alC 0 = (⟨0, 1, 0, 0, 0, zTb⟩, true) := by kernel_rfl
theorem hy_one (t : Tb) (nv : Value) (tries : Int) (lv sv : Value) (h1 : nv.oneCell' = true) (h2 : lv.oneCell' = true) (h3 : sv.oneCell' = true) : (hyCells t nv tries lv sv).all (·.oneCell') = true := by
 have h0 : t.cells.toList.all (·.oneCell') = true := by have h := t.one; rw [← Array.all_toList] at h; exact h
 unfold hyCells
 rw [List.all_toArray, List.all_append, h0]
 simp [h1, h2, h3]
 rfl
set_option maxRecDepth 100000 in
set_option maxHeartbeats 16000000 in
theorem law_alive (tb : Go.Proofs.YtnjnooeldkideaaDoor.TB W J) (h : St W w J F) : Calls Tryd.prog 7 #[] w fun e w' => e = .returned (.bool true) ∧ St W w' J F := by
 have kg := fun (v : World) (X : List (Nat × Obj)) (hv : St W v J X) => law_good hv
 have kn := fun (v : World) (X : List (Nat × Obj)) (hv : St W v J X) => o_new (c := 1) tb gTb gTb_ok 3 (by decide) (by decide) (al_rd (b := v.heap.size)) (by decide) (fun s hs => by simp at hs; rw [hs]; decide) (F := (v.heap.size, .cells #[.string coreB] 9 (0, 0)) :: X) (fun p hp => by simp at hp; simp [hp]) (hv.alloc (.cells #[.string coreB] 9))
 have kr := fun (A : Option Addr) (c : Nat) (Ln : List (Nat × Obj)) (mo : MOk J alM [coreB] A 1 c Ln) (gm : Nat) (v : World) (X : List (Nat × Obj)) (hL : ∀ p ∈ Ln, p ∈ X) (hv : St W v J X) (hm : (gm, Obj.cells (alM.cells (.slice A 1 c)) 71 (0, 0)) ∈ X) => o_reply tb mo alC alC_ok (by decide) 0 (by decide) (by decide) hL hv hm
 have kd := fun (A : Option Addr) (c : Nat) (Ln : List (Nat × Obj)) (mo : MOk J alM [coreB] A 1 c Ln) (gm : Nat) (v : World) (X : List (Nat × Obj)) (hL : ∀ p ∈ Ln, p ∈ X) (hv : St W v J ((gm, Obj.cells (alM.cells (.slice A 1 c)) 71 (0, 0)) :: X)) => o_do tb mo alE alE_ok (by decide) hL hv
 have kv := fun (nv : Value) (gm : Nat) (v : World) (X : List (Nat × Obj)) (hv : St W v J X) (hm : (gm, Obj.cells (alM2.cells nv) 71 (0, 0)) ∈ X) => o_live alM2_ok hv hm
 have kt := fun (nv : Value) (gm : Nat) (v : World) (X : List (Nat × Obj)) (hv : St W v J X) (hm : (gm, Obj.cells (alM2.cells nv) 71 (0, 0)) ∈ X) => o_table alM2_ok hv hm
 have kc := fun (b : Nat) (v : World) (X : List (Nat × Obj)) (hv : St W v J ((b, .cells alS.cells 40 (0, 0)) :: X)) => o_check (nc := 0) (lc := 0) (pc := 1) tb 0 (al_hy (b := b) (F := X)) hv
 have kf := fun (b : Nat) (v : World) (X : List (Nat × Obj)) (hv : St W v J ((b, .cells alS.cells 40 (0, 0)) :: X)) => o_find (nc := 0) (lc := 0) (pc := 1) tb 0 (al_hy (b := b) (F := X)) hv
 rw [al_check] at kc
 rw [al_find] at kf
 rw [al_rep] at kr
 simp only [al_do, Option.isSome_some, Option.getD_some] at kd
 rw [al_names] at kn
 have bl : ∀ v, (Instr.build 36 #[(1, .int .i64 1)]).run Tryd.prog v = .ok (.agg (⟨0, 1, 0, 0, 0, zTb⟩ : Ry).cells) v := run_build_alr
 have be : ∀ v, (Instr.build 38 #[(0, .int .i64 1), (1, .int .i64 5), (2, .agg #[Value.int .i64 0, .int .i64 1, .int .i64 0, .int .i64 0, .string ⟨#[67, 79, 82, 69]⟩]), (3, .agg (⟨0, 1, 0, 0, 0, zTb⟩ : Ry).cells)]).run Tryd.prog v = .ok (.agg alE.cells) v := run_build_ale
 have bs : ∀ v, (Instr.build 40 #[(0, .int .i64 1), (1, .int .i64 1), (3, .agg #[Value.int .i64 0, .int .i64 3, .int .i64 0, .int .i64 0, .string ⟨#[]⟩])]).run Tryd.prog v = .ok (.agg alS.cells) v := run_build_als
 have bh := fun (b : Nat) => run_build_alh (some ⟨b, 0, none⟩) 1 1
 have rsz := Ry.size (r := (⟨0, 1, 0, 0, 0, zTb⟩ : Ry)) zTb_ok
 have rai := ry_info (r := (⟨0, 1, 0, 0, 0, zTb⟩ : Ry)) zTb_ok
 have rao := Ry.one (⟨0, 1, 0, 0, 0, zTb⟩ : Ry)
 have r1 : (⟨0, 1, 0, 0, 0, zTb⟩ : Ry).cells[1]? = some (.int .i64 1) := rfl
 have ssz := Sp.size alS_ok
 have hsz := fun (b : Nat) => hy_size gTb_ok (.slice none 0 0) 0 (.slice none 0 0) (.slice (some ⟨b, 0, none⟩) 1 1)
 have hao := fun (b : Nat) => hy_one gTb (.slice none 0 0) 0 (.slice none 0 0) (.slice (some ⟨b, 0, none⟩) 1 1) rfl rfl rfl
 have hin : (Tryd.prog.info? 45).map (·.size) = some 79 := by kernel_rfl
 unfold Tb.val at kg kn kt
 unfold En.val at kd
 unfold Cl.val at kr
 obtain ⟨GT, hGT⟩ : ∃ y, gTb.cells = y := ⟨_, rfl⟩
 obtain ⟨RC, hRC⟩ : ∃ y, (⟨0, 1, 0, 0, 0, zTb⟩ : Ry).cells = y := ⟨_, rfl⟩
 obtain ⟨EX, hEX⟩ : ∃ y, alE.cells = y := ⟨_, rfl⟩
 obtain ⟨SX, hSX⟩ : ∃ y, alS.cells = y := ⟨_, rfl⟩
 obtain ⟨HXF, hHX⟩ : ∃ y : Nat → Array Value, (fun b => hyCells gTb (.slice none 0 0) 0 (.slice none 0 0) (.slice (some ⟨b, 0, none⟩) 1 1)) = y := ⟨_, rfl⟩
 have hHX2 : ∀ b, hyCells gTb (.slice none 0 0) 0 (.slice none 0 0) (.slice (some ⟨b, 0, none⟩) 1 1) = HXF b := fun b => by rw [← hHX]
 have kc2 : ∀ (b : Nat) (v : World) (X : List (Nat × Obj)), St W v J ((b, .cells SX 40 (0, 0)) :: X) → Calls Tryd.prog 9 #[.agg (HXF b)] v fun e w' => e = .returned (.int .i64 0) ∧ St W w' J ((b, .cells SX 40 (0, 0)) :: X) := fun b v X hv => by rw [← hHX2, ← hSX]; rw [← hSX] at hv; exact kc b v X hv
 have kf2 : ∀ (b : Nat) (v : World) (X : List (Nat × Obj)), St W v J ((b, .cells SX 40 (0, 0)) :: X) → Calls Tryd.prog 10 #[.agg (HXF b)] v fun e w' => e = .returned (.int .i64 0) ∧ St W w' J ((b, .cells SX 40 (0, 0)) :: X) := fun b v X hv => by rw [← hHX2, ← hSX]; rw [← hSX] at hv; exact kf b v X hv
 simp only [hHX2] at bh hsz hao
 rw [hGT] at kg kn bh
 rw [hRC] at kr bl be rsz rai rao r1
 rw [hEX] at kd be
 rw [hSX] at bs ssz
 have rfit : 0 + RC.size ≤ Tryd.zeroCells36.size := by rw [rsz, zry]; omega
 have rmany : setMany Tryd.zeroCells36 0 RC.toList = RC := by rw [setMany_whole _ _ (by rw [Array.length_toList, rsz, zry]), Array.toArray_toList]
 have KG := Lib.hid kg; have KN := Lib.hid kn; have KR := Lib.hid kr; have KD := Lib.hid kd; have KV := Lib.hid kv; have KT := Lib.hid kt; have KC := Lib.hid kc2; have KF := Lib.hid kf2; have BL := Lib.hid bl; have BE := Lib.hid be; have BS := Lib.hid bs; have BH := Lib.hid bh; have RAI := Lib.hid rai; have RAO := Lib.hid rao; have RFIT := Lib.hid rfit; have RMANY := Lib.hid rmany; have R1 := Lib.hid r1; have SSZ := Lib.hid ssz; have HSZ := Lib.hid hsz; have HAO := Lib.hid hao; have HIN := Lib.hid hin
 have K0 := Lib.hid (kg _ _ h)
 clear kg kn kr kd kv kt kc kf kc2 kf2 bl be bs bh rai rao rfit rmany r1 ssz hsz hao hin rsz hGT hRC hEX hSX hHX hHX2 h
 go_enter Tryd.func7, Tryd.ntmps7
 go_wp2_with fail
 refine K0.out.mono ?_
 rintro e w1 ⟨rfl, h1⟩
 have KN2 := Lib.hid (KN.out _ _ h1)
 clear h1 KN K0
 go_wp2_with fail
 refine KN2.out.mono ?_
 rintro e w2 ⟨gm, A, c, L0, rfl, mo, h2⟩
 have mo : MOk J alM [coreB] A 1 c L0 := mo
 have H2 : Hid (St W w2 J ((gm, .cells (alM.cells (.slice A 1 c)) 71 (0, 0)) :: (L0 ++ ((w1.heap.size, .cells #[.string coreB] 9 (0, 0)) :: F)))) := Lib.hid h2
 have KR2 := Lib.hid (KR.out A c L0 mo gm _ _ (fun p hp => by simp [hp]) H2.out (List.mem_cons_self ..))
 have MO := Lib.hid mo
 clear h2 mo KN2
 obtain ⟨bn, hbn⟩ : ∃ y, w1.heap.size = y := ⟨_, rfl⟩
 rw [hbn] at H2 KR2
 clear hbn
 go_wp2_with fail
 refine KR2.out.mono ?_
 rintro e w3 ⟨rfl, h3⟩
 have H3 := Lib.hid (h3.alloc (.cells Tryd.zeroCells36 36))
 clear h3 KR2 H2
 go_wp2_with (with_reducible refine wpList_store_st rfl 36 (.tmp 2) (.tmp 15) rfl (g := w3.heap.size) (off := 0) RC rfl rfl H3.out RFIT.out RAI.out RAO.out ?_; intro w4 h4; refine Hid.out ?_)
 refine Lib.hid ?_
 rw [RMANY.out] at h4
 obtain ⟨br, hbr⟩ : ∃ y, w3.heap.size = y := ⟨_, rfl⟩
 rw [hbr] at h4 ⊢
 have KD2 := Lib.hid (KD.out A c L0 MO.out gm w4 ((br, .cells RC 36 (0, 0)) :: (L0 ++ ((bn, .cells #[.string coreB] 9 (0, 0)) :: F))) (fun p hp => by simp [hp]) (h4.perm (perm_count (fun i a => by simp only [List.count_append, List.count_cons, List.count_nil]; omega))))
 clear h4 H3 hbr KD
 go_wp2_with (first | (with_reducible refine wpList_build_go rfl 36 _ rfl _ ?_ (BL.out _) ?_; · go_simp) | (with_reducible refine wpList_build_go rfl 38 _ rfl _ ?_ (BE.out _) ?_; · go_simp))
 refine KD2.out.mono ?_
 rintro e w5 ⟨rfl, h5⟩
 have KG2 := Lib.hid (KG.out _ _ h5)
 clear KD2 h5 KG
 go_wp2_with fail
 refine KG2.out.mono ?_
 rintro e w6 ⟨rfl, h6⟩
 have H6 := Lib.hid h6
 have ssz := SSZ.out
 clear KG2 h6
 go_wp2_with (first | (with_reducible refine wpList_build_go rfl 40 _ rfl _ ?_ (BS.out _) ?_; · go_simp) | (with_reducible refine wpList_build_go rfl 45 _ rfl _ (by go_simp) (BH.out w6.heap.size _) ?_; refine Hid.out ?_))
 refine Lib.hid ?_
 rw [fold_at0 SX _ 88 SSZ.out, setMany_whole _ _ (by rw [Array.length_toList, SSZ.out]; rfl), Array.toArray_toList]
 have h7 := (H6.out.alloc (.cells SX 40)).alloc (.cells Tryd.zeroCells45 45)
 rw [World.size_alloc] at h7
 obtain ⟨bs, hbs⟩ : ∃ y, w6.heap.size = y := ⟨_, rfl⟩
 rw [hbs] at h7 ⊢
 have hfit : 0 + (HXF bs).size ≤ Tryd.zeroCells45.size := by rw [HSZ.out, show Tryd.zeroCells45.size = 79 by kernel_rfl]; omega
 have hmany : setMany Tryd.zeroCells45 0 (HXF bs).toList = HXF bs := by rw [setMany_whole _ _ (by rw [Array.length_toList, HSZ.out]; kernel_rfl), Array.toArray_toList]
 have hinf : (Tryd.prog.info? 45).map (·.size) = some (HXF bs).size := by rw [HSZ.out]; exact HIN.out
 have HFIT := Lib.hid hfit; have HMANY := Lib.hid hmany; have HINF := Lib.hid hinf; have HONE := Lib.hid (HAO.out bs)
 have kcx := KC.out bs; have kfx := KF.out bs
 obtain ⟨HX, hHX⟩ : ∃ y, HXF bs = y := ⟨_, rfl⟩
 rw [hHX] at HFIT HMANY HINF HONE kcx kfx ⊢
 have H7 := Lib.hid h7; have KCX := Lib.hid kcx; have KFX := Lib.hid kfx
 clear h7 H6 hfit hmany hinf kcx kfx hHX ssz KC KF HAO HSZ HIN
 go_wp2_with (with_reducible refine wpList_store_st rfl 45 (.tmp 5) (.tmp 26) rfl (g := bs + 1) (off := 0) HX rfl rfl H7.out HFIT.out HINF.out HONE.out ?_; intro w8 h8; refine Hid.out ?_)
 refine Lib.hid ?_
 rw [HMANY.out] at h8
 have r1 := (h8.cell (g := br) (cs := RC) (t := 36) (fr := (0, 0)) (by simp) 1).trans R1.out
 have KV2 := Lib.hid (KV.out (.slice A 1 c) gm _ _ h8 (by simp))
 have KT2 := Lib.hid (KT.out (.slice A 1 c) gm _ _ h8 (by simp))
 have H8 := Lib.hid h8
 clear h8 H7
 go_wp2_with fail
 refine KV2.out.mono ?_
 rintro e w9 ⟨rfl, rfl⟩
 clear KV2
 rw [show alM2.job.live = true from rfl]
 go_wp2_with fail
 refine KT2.out.mono ?_
 rintro e w9 ⟨rfl, h9⟩
 have H9 := Lib.hid h9
 clear h9 KT2 H8 r1
 have f1 := run_f1; have f2 := run_f2; have f3 := run_f3
 obtain ⟨T1, hT1⟩ : ∃ y, alM2.known.cells = y := ⟨_, rfl⟩
 obtain ⟨T2, hT2⟩ : ∃ y, gS.cells ++ (bareS 1).cells = y := ⟨_, rfl⟩
 obtain ⟨T3, hT3⟩ : ∃ y, (bareS 1).cells = y := ⟨_, rfl⟩
 rw [hT1, hT2] at f1
 rw [hT2] at f2
 rw [hT3] at f2 f3
 rw [hT1]
 clear hT1 hT2 hT3
 have RH : Hid (w9.rangeAt (bs + 1) 0 HX.toList) := Lib.hid (fun j u hj => by rw [Nat.zero_add, H9.out.cell (g := bs + 1) (cs := HX) (t := 45) (fr := (0, 0)) (by simp) j]; simpa using hj)
 have KC2 := Lib.hid (KCX.out w9 _ (St.perm (L' := (bs, .cells SX 40 (0, 0)) :: (bs + 1, .cells HX 45 (0, 0)) :: (gm, .cells (alM2.cells (.slice A 1 c)) 71 (0, 0)) :: (br, .cells RC 36 (0, 0)) :: (L0 ++ ((bn, .cells #[.string coreB] 9 (0, 0)) :: F))) H9.out (perm_count (fun i a => by simp only [List.count_append, List.count_cons, List.count_nil]; omega))))
 clear H9 KCX
 go_wp2_with (with_reducible refine wpList_load_midg 49 rfl (by kernel_rfl) 45 (.tmp 5) rfl (bs + 1) 0 rfl HX _ RH.out Tryd.underlying45 rfl HINF.out ?_)
 refine KC2.out.mono ?_
 rintro e w10 ⟨rfl, h10⟩
 have RH2 : Hid (w10.rangeAt (bs + 1) 0 HX.toList) := Lib.hid (fun j u hj => by rw [Nat.zero_add, h10.cell (g := bs + 1) (cs := HX) (t := 45) (fr := (0, 0)) (by simp) j]; simpa using hj)
 have KF2 := Lib.hid (KFX.out w10 _ h10)
 clear h10 KC2 RH KFX
 go_wp2_with (with_reducible refine wpList_load_midg 54 rfl (by kernel_rfl) 45 (.tmp 5) rfl (bs + 1) 0 rfl HX _ RH2.out Tryd.underlying45 rfl HINF.out ?_)
 refine KF2.out.mono ?_
 rintro e w11 ⟨rfl, h11⟩
 have HZ := Lib.hid (h11.keep (M := F) ((bs, .cells SX 40 (0, 0)) :: (bs + 1, .cells HX 45 (0, 0)) :: (gm, .cells (alM2.cells (.slice A 1 c)) 71 (0, 0)) :: (br, .cells RC 36 (0, 0)) :: (L0 ++ [(bn, .cells #[.string coreB] 9 (0, 0))])) (fun i a => by simp only [List.count_append, List.count_cons, List.count_nil]; omega))
 clear h11 KF2 RH2
 go_wp2_with fail
 go_ret
 exact ⟨rfl, HZ.out⟩
end
end

section
set_option linter.unusedVariables false
set_option linter.unusedSimpArgs false
open Go.RowKit Go.Lib Go.Deep
section
variable {W w : World} {J : Nat → Option Obj} {t : Tb} {F : List (Nat × Obj)}
theorem ix_int (a : Int) : ixB a = (decide (0 ≤ a) && decide (a ≤ 1)) := by
 unfold ixB
 by_cases h : 0 ≤ a ∧ a ≤ 1
 ·have : a = 0 ∨ a = 1 := by omega
  rcases this with rfl | rfl <;> decide
 ·have h0 : (a == 0) = false := by simp; omega
  have h1 : (a == 1) = false := by simp; omega
  have h2 : (decide (0 ≤ a) && decide (a ≤ 1)) = false := by simp; omega
  rw [h0, h1, h2]; rfl
theorem boo_int (a : Int) : (a == -1 || ixB a) = (decide (-1 ≤ a) && decide (a ≤ 1)) := by
 rw [ix_int]
 by_cases h : a = -1
 ·subst h; decide
 ·have h0 : (a == -1) = false := by simpa using h
  have h1 : decide (-1 ≤ a) = decide (0 ≤ a) := by rw [decide_eq_decide]; omega
  rw [h0, h1]; rfl
set_option maxRecDepth 100000 in
set_option maxHeartbeats 8000000 in
theorem ref11_right (t : Tb) (ok : t.Ok) (h : St W w J F) : Calls Tryd.prog 17 #[t.val] w fun e w' => e = .returned (.bool (rightT t)) ∧ St W w' J F := by
 have h1 := h.alloc (.cells t.cells 32)
 obtain ⟨g, hg⟩ : ∃ g, w.heap.size = g := ⟨_, rfl⟩
 rw [hg] at h1
 have fx := fun (v : World) (X : List (Nat × Obj)) (hv : St W v J X) (hx : (g, Obj.cells t.cells 32 (0, 0)) ∈ X) => hv.tb ok hx
 have k0 := fun (v : World) (X : List (Nat × Obj)) (hv : St W v J X) => ref_right t.s0 ok.s0 hv
 have k1 := fun (v : World) (X : List (Nat × Obj)) (hv : St W v J X) => ref_right t.s1 ok.s1 hv
 have i0 := slt_info ok.s0; have i1 := slt_info ok.s1
 have hR : rightT t = (rightS t.s0 && (rightS t.s1 && ((decide (0 ≤ t.act) && decide (t.act ≤ 1)) && ((decide (-1 ≤ t.boo) && decide (t.boo ≤ 1)) && decide (t.flo ≤ 281474976710656))))) := by unfold rightT; rw [ix_int t.act, boo_int]
 unfold Tb.val
 unfold Slt.val at *
 obtain ⟨r0, hr0⟩ : ∃ b, rightS t.s0 = b := ⟨_, rfl⟩
 obtain ⟨r1, hr1⟩ : ∃ b, rightS t.s1 = b := ⟨_, rfl⟩
 rw [hr0] at k0 hR
 rw [hr1] at k1 hR
 rw [hR]
 have gx : ∀ (v : World), St W v J ((g, .cells t.cells 32 (0, 0)) :: F) → v.rangeAt g 0 t.s0.cells.toList ∧ v.rangeAt g 36 t.s1.cells.toList ∧ v.cell? ⟨g, 72, none⟩ = some (.int .i64 t.act) ∧ v.cell? ⟨g, 73, none⟩ = some (.int .i64 t.boo) ∧ v.cell? ⟨g, 74, none⟩ = some (.int .u64 t.flo) := fun v hv => ⟨(fx v _ hv (by simp)).s0, (fx v _ hv (by simp)).s1, (fx v _ hv (by simp)).act, (fx v _ hv (by simp)).boo, (fx v _ hv (by simp)).flo⟩
 obtain ⟨S0, hS0⟩ : ∃ y, t.s0.cells = y := ⟨_, rfl⟩
 obtain ⟨S1, hS1⟩ : ∃ y, t.s1.cells = y := ⟨_, rfl⟩
 obtain ⟨TC, hTC⟩ : ∃ y, t.cells = y := ⟨_, rfl⟩
 rw [hS0] at k0 i0 gx
 rw [hS1] at k1 i1 gx
 rw [hTC] at h1 gx ⊢
 obtain ⟨ac, hac⟩ : ∃ y, t.act = y := ⟨_, rfl⟩
 obtain ⟨bo, hbo⟩ : ∃ y, t.boo = y := ⟨_, rfl⟩
 obtain ⟨fl, hfl⟩ : ∃ y, t.flo = y := ⟨_, rfl⟩
 rw [hac, hbo, hfl] at gx ⊢
 have K0 := Lib.hid k0; have K1 := Lib.hid k1; have I0 := Lib.hid i0; have I1 := Lib.hid i1; have GX := Lib.hid gx; have H1 := Lib.hid h1
 have RA0 := Lib.hid (gx _ h1).1
 have KX := Lib.hid (k0 _ _ h1)
 have FR : Hid (∀ v, St W v J ((g, .cells TC 32 (0, 0)) :: F) → St W v J F) := Lib.hid (fun v hv => hv.weaken (A := [_]))
 clear k0 k1 i0 i1 gx h1 h fx hR hr0 hr1 hS0 hS1 hTC hac hbo hfl ok
 go_enter Tryd.func17, Tryd.ntmps17
 go_wp2_with (with_reducible refine wpList_load_midg 5 rfl (by kernel_rfl) 29 (.tmp 4) rfl g 0 rfl S0 _ RA0.out Tryd.underlying29 rfl I0.out ?_)
 refine KX.out.mono ?_
 rintro e w2 ⟨rfl, h2⟩
 have RA1 := Lib.hid (GX.out _ h2).2.1
 have KY := Lib.hid (K1.out _ _ h2)
 cases r0 with
 | false =>
  have HF := Lib.hid (FR.out _ h2)
  clear h2 KX KY
  go_wp2_with fail
  go_ret
  exact ⟨rfl, HF.out⟩
 | true =>
  clear h2 KX
  go_wp2_with (with_reducible refine wpList_load_midg 11 rfl (by kernel_rfl) 29 (.tmp 10) rfl g 36 rfl S1 _ RA1.out Tryd.underlying29 rfl I1.out ?_)
  refine KY.out.mono ?_
  rintro e w3 ⟨rfl, h3⟩
  obtain ⟨-, -, c72, c73, c74⟩ := GX.out _ h3
  have HF := Lib.hid (FR.out _ h3)
  clear h3 KY
  cases r1 with
  | false =>
   go_wp2_with fail
   go_ret
   exact ⟨rfl, HF.out⟩
  | true =>
   by_cases q5 : ac ≥ 0
   ·have d5 := decide_eq_true q5
    by_cases q4 : ac ≤ 1
    ·have d4 := decide_eq_true q4
     by_cases q3 : bo ≥ -1
     ·have d3 := decide_eq_true q3
      by_cases q2 : bo ≤ 1
      ·have d2 := decide_eq_true q2
       by_cases q1 : fl ≤ 281474976710656
       ·have d1 := decide_eq_true q1
        go_wp2_with fail
        go_ret
        exact ⟨congrArg (fun z => Ending.returned (Value.bool z)) (by simp_all <;> omega), HF.out⟩
       ·have d1 := decide_eq_false q1
        go_wp2_with fail
        go_ret
        exact ⟨congrArg (fun z => Ending.returned (Value.bool z)) (by simp_all <;> omega), HF.out⟩
      ·have d2 := decide_eq_false q2
       go_wp2_with fail
       go_ret
       exact ⟨congrArg (fun z => Ending.returned (Value.bool z)) (by simp_all <;> omega), HF.out⟩
     ·have d3 := decide_eq_false q3
      go_wp2_with fail
      go_ret
      exact ⟨congrArg (fun z => Ending.returned (Value.bool z)) (by simp_all <;> omega), HF.out⟩
    ·have d4 := decide_eq_false q4
     go_wp2_with fail
     go_ret
     exact ⟨congrArg (fun z => Ending.returned (Value.bool z)) (by simp_all <;> omega), HF.out⟩
   ·have d5 := decide_eq_false q5
    go_wp2_with fail
    go_ret
    exact ⟨congrArg (fun z => Ending.returned (Value.bool z)) (by simp_all <;> omega), HF.out⟩
end
end

section
set_option linter.unusedVariables false
set_option linter.unusedSimpArgs false
open Go.RowKit Go.Lib Go.Deep
section
variable {W w : World} {J : Nat → Option Obj} {t : Tb} {F : List (Nat × Obj)}
variable {nA lA pA : Option Addr} {nc lc pc : Nat} {nms : List ByteArray} {es : List En} {ss : List Sp} {t : Tb} {Ln Le Lp : List (Nat × Obj)}
structure En.Fit (e : En) : Prop where
 rep : e.rep.t.Ok
 slot : e.slot.Ok
theorem En.Fit.size {e : En} (ok : e.Fit) : e.cells.size = 126 := by
 have h := Ry.size ok.rep
 have h2 := ok.slot.len
 have h3 := Cl.size e.call
 simp [En.cells, h, h2, h3]
theorem Sp.size' {x : Sp} (ok : x.rep.t.Ok) : x.cells.size = 88 := by
 have h := Ry.size ok
 have h3 := Cl.size x.call
 simp [Sp.cells, h, h3]
theorem en_info' {e : En} (ok : e.Fit) : (Tryd.prog.info? 38).map (·.size) = some e.cells.size := by rw [ok.size]; kernel_rfl
theorem sp_info' {x : Sp} (ok : x.rep.t.Ok) : (Tryd.prog.info? 40).map (·.size) = some x.cells.size := by rw [Sp.size' ok]; kernel_rfl
theorem En.name_at (e : En) : e.cells[6]? = some (.string e.call.name) := rfl
theorem Sp.name_at (x : Sp) : x.cells[7]? = some (.string x.call.name) := rfl
def bigN (ns : List ByteArray) : Bool := ns.any fun s => decide (200 < s.size)
def bigE (es : List En) : Bool := es.any fun e => decide (200 < e.call.name.size)
def bigS (ss : List Sp) : Bool := ss.any fun e => decide (200 < e.call.name.size)
def greatB (t : Tb) (nms : List ByteArray) (es : List En) : Bool := !rightT t || (decide (10 < nms.length) || (decide (60 < es.length) || (bigN nms || bigE es)))
def tooB (t : Tb) (nms : List ByteArray) (es : List En) (ss : List Sp) (n : Int) : Bool := greatB t nms es || (decide (n < ss.length) || bigS ss)
set_option maxRecDepth 100000 in
set_option maxHeartbeats 16000000 in
theorem law_great (tok : t.Ok) (hnm : Rd W J Ln 1 nA (nmRows nms)) (hnl : ∀ p ∈ Ln, p ∈ F) (hre : Rd W J Le 126 lA (enRows es)) (hle : ∀ p ∈ Le, p ∈ F) (hn63 : nms.length ≤ 9223372036854775807) (he63 : es.length ≤ 9223372036854775807) (efit : ∀ e ∈ es, e.Fit) (h : St W w J F) :
  Calls Tryd.prog 12 #[t.val, .slice nA nms.length nc, .slice lA es.length lc] w fun e w' => e = .returned (.bool (greatB t nms es)) ∧ St W w' J F := by
 have h1 := h.alloc (.cells t.cells 32)
 obtain ⟨g, hg⟩ : ∃ g, w.heap.size = g := ⟨_, rfl⟩
 rw [hg] at h1
 have ra : (w.alloc (.cells t.cells 32)).rangeAt g 0 t.cells.toList := fun j u hj => by rw [Nat.zero_add, h1.cell (g := g) (List.mem_cons_self ..) j]; simpa using hj
 have ti := tb_info tok
 have kr := fun (v : World) (X : List (Nat × Obj)) (hv : St W v J X) => ref11_right t tok hv
 obtain ⟨R, hR⟩ : ∃ R, greatB t nms es = R := ⟨_, rfl⟩
 have hR2 := hR
 unfold greatB at hR2
 rw [hR]
 obtain ⟨rt, hrt⟩ : ∃ y, rightT t = y := ⟨_, rfl⟩
 rw [hrt] at hR2 kr
 obtain ⟨NN, hNN⟩ : ∃ y, nms.length = y := ⟨_, rfl⟩
 obtain ⟨NE, hNE⟩ : ∃ y, es.length = y := ⟨_, rfl⟩
 rw [hNN] at hR2 hn63 ⊢
 rw [hNE] at hR2 he63 ⊢
 unfold Tb.val at *
 obtain ⟨CT, hCT⟩ : ∃ y, t.cells = y := ⟨_, rfl⟩
 rw [hCT] at h1 ra ti kr ⊢
 have fin : ∀ (z : Bool) (v : World) (D : List (Nat × Obj)), R = z → St W v J (D ++ ((g, .cells CT 32 (0, 0)) :: F)) → (Ending.returned (.bool z) = .returned (.bool R) ∧ St W v J F) := fun z v D hz hv => ⟨by rw [hz], hv.keep (D ++ [(g, .cells CT 32 (0, 0))]) (fun i a => by simp only [List.count_append, List.count_cons, List.count_nil]; omega)⟩
 have FIN := Lib.hid fin; have RA := Lib.hid ra; have TI := Lib.hid ti; have KR := Lib.hid (kr _ _ h1); have HR2 := Lib.hid hR2; have HNM := Lib.hid hnm; have HNL := Lib.hid hnl; have HRE := Lib.hid hre; have HLE := Lib.hid hle; have HNN := Lib.hid hNN; have HNE := Lib.hid hNE; have EFIT := Lib.hid efit
 clear fin ra ti kr hR2 hnm hnl hre hle hNN hNE efit h1 h hR hrt hCT tok
 go_enter Tryd.func12, Tryd.ntmps12
 go_wp2_with (with_reducible refine wpList_load_midg 11 rfl (by kernel_rfl) 32 (.tmp 3) rfl g 0 rfl CT _ RA.out Tryd.underlying32 rfl TI.out ?_)
 refine KR.out.mono ?_
 rintro e w2 ⟨rfl, h2⟩
 have H2 := Lib.hid h2
 clear h2 KR RA
 cases rt with
 | false =>
  have HF := Lib.hid (FIN.out true _ [] (by rw [← HR2.out]; rfl) H2.out)
  go_wp2_with fail
  go_ret
  exact HF.out
 | true =>
  by_cases h10 : 10 < NN
  ·have b10 : decide ((NN : Int) > 10) = true := by simp; omega
   have HF := Lib.hid (FIN.out true _ [] (by rw [← HR2.out]; simp [h10]) H2.out)
   go_wp2_with fail
   go_ret
   exact HF.out
  ·have b10 : decide ((NN : Int) > 10) = false := by simp; omega
   by_cases h60 : 60 < NE
   ·have b60 : decide ((NE : Int) > 60) = true := by simp; omega
    have HF := Lib.hid (FIN.out true _ [] (by rw [← HR2.out]; simp [h60]) H2.out)
    go_wp2_with fail
    go_ret
    exact HF.out
   ·have b60 : decide ((NE : Int) > 60) = false := by simp; omega
    have HR3 := Lib.hid (show (bigN nms || bigE es) = R by rw [← HR2.out]; simp [h10, h60])
    clear HR2
    go_wp2_with fail
    go_loopw [26] (fun v wr => ∃ k : Nat, v = .int .i64 (k : Int) ∧ k ≤ NN ∧ bigN (nms.take k) = false ∧ St W wr J ((g, .cells CT 32 (0, 0)) :: F)) (fun v _ => NN - (intOf v).toNat)
    case atStart => exact ⟨0, rfl, by omega, by simp [bigN], H2.out⟩
    case round =>
     obtain ⟨k, rfl, hk, hb, hst⟩ := hrel
     clear H2
     by_cases hkl : k < NN
     ·obtain ⟨sx, hsx⟩ : ∃ o, nms[k]? = some o := ⟨_, List.getElem?_eq_getElem (by rw [HNN.out]; exact hkl)⟩
      obtain ⟨b, off, rfl, hcell⟩ := HNM.out.at_ wr _ hst (fun p hp => by simp [HNL.out p hp]) k [.string sx] (by unfold nmRows; rw [List.getElem?_map, hsx]; rfl)
      have c0 := hcell 0 _ rfl
      rw [Nat.mul_one, Nat.add_zero] at c0
      have hnx := any_take_succ (fun s : ByteArray => decide (200 < s.size)) hsx
      have hany := any_of_take (fun s : ByteArray => decide (200 < s.size)) hsx
      have H3 := Lib.hid hst; have HNX := Lib.hid hnx; have HANY := Lib.hid hany
      clear hst hcell hnx hany
      by_cases h2 : 200 < sx.size
      ·have b2 : decide ((sx.size : Int) > 200) = true := by simp; omega
       have HF := Lib.hid (FIN.out true _ [] (by rw [← HR3.out, show bigN nms = true from HANY.out (by simpa using h2)]; rfl) H3.out)
       clear hsx
       go_wp2_with fail
       go_ret
       exact HF.out
      ·have b2 : decide ((sx.size : Int) > 200) = false := by simp; omega
       have HN1 := Lib.hid (show bigN (nms.take (k + 1)) = false from by
        have q := HNX.out
        unfold bigN at hb ⊢
        rw [q, hb, Bool.false_or]
        simpa using h2)
       clear hsx
       go_wp2_with fail
       go_roundw
       case rel => exact ⟨k + 1, by go_num, by omega, HN1.out, H3.out⟩
       case measure => simp [intOf]; omega
     ·obtain rfl : k = NN := by omega
      rw [← HNN.out, List.take_length] at hb
      have HR4 := Lib.hid (show bigE es = R by rw [← HR3.out, hb, Bool.false_or])
      have H3 := Lib.hid hst
      clear hst hb HR3
      go_wp2_with fail
      go_loopw [36] (fun v wr => ∃ k : Nat, v = .int .i64 (k : Int) ∧ k ≤ NE ∧ bigE (es.take k) = false ∧ St W wr J ((g, .cells CT 32 (0, 0)) :: F)) (fun v _ => NE - (intOf v).toNat)
      case atStart => exact ⟨0, rfl, by omega, by simp [bigE], H3.out⟩
      case round =>
       obtain ⟨j, rfl, hj, hb, hst⟩ := hrel
       clear H3
       by_cases hjl : j < NE
       ·obtain ⟨x, hx⟩ : ∃ o, es[j]? = some o := ⟨_, List.getElem?_eq_getElem (by rw [HNE.out]; exact hjl)⟩
        obtain ⟨b, off, rfl, hr⟩ := HRE.out.en _ _ hst (fun p hp => by simp [HLE.out p hp]) j x hx
        have xok := EFIT.out x (List.mem_of_getElem? hx)
        have xi := en_info' xok
        have xsz := xok.size
        have xo := En.one x
        have xn := x.name_at
        have h2 := hst.alloc (.cells Tryd.zeroCells38 38)
        have hnx := any_take_succ (fun e : En => decide (200 < e.call.name.size)) hx
        have hany := any_of_take (fun e : En => decide (200 < e.call.name.size)) hx
        obtain ⟨X, hX⟩ : ∃ X, x.cells = X := ⟨_, rfl⟩
        obtain ⟨sx, hsx⟩ : ∃ y, x.call.name = y := ⟨_, rfl⟩
        rw [hX] at hr xi xsz xo xn
        rw [hsx] at xn
        simp only [hsx] at hnx hany
        have xfit : 0 + X.size ≤ Tryd.zeroCells38.size := by rw [xsz, zent]; omega
        have xmany : setMany Tryd.zeroCells38 0 X.toList = X := by rw [setMany_whole _ _ (by rw [Array.length_toList, xsz, zent]), Array.toArray_toList]
        have HRX := Lib.hid hr; have XI := Lib.hid xi; have XO := Lib.hid xo; have XF := Lib.hid xfit; have XM := Lib.hid xmany; have H2 := Lib.hid h2; have HNX := Lib.hid hnx; have HANY := Lib.hid hany; have XN := Lib.hid xn
        clear hst hr xi xo xsz xfit xmany h2 hnx hany xok hX hsx hx xn
        go_wp2_with (first | (with_reducible refine wpList_load_midg 39 rfl (by kernel_rfl) 38 (.tmp 38) rfl b (off + j * 126) rfl X _ HRX.out Tryd.underlying38 rfl XI.out ?_) | (with_reducible refine wpList_store_st rfl 38 (.tmp 10) (.tmp 39) rfl (g := wr.heap.size) (off := 0) X rfl rfl H2.out XF.out XI.out XO.out ?_; intro w3 h3; refine Hid.out ?_))
        refine Lib.hid ?_
        rw [XM.out] at h3
        obtain ⟨gx, hgx⟩ : ∃ y, wr.heap.size = y := ⟨_, rfl⟩
        rw [hgx] at h3 ⊢
        have c6 := (h3.cell (g := gx) (cs := X) (t := 38) (fr := (0, 0)) (List.mem_cons_self ..) 6).trans XN.out
        have H3 := Lib.hid h3
        clear h3 H2 HRX hgx
        by_cases h2 : 200 < sx.size
        ·have b2 : decide ((sx.size : Int) > 200) = true := by simp; omega
         have HF := Lib.hid (FIN.out true _ [(gx, .cells X 38 (0, 0))] (by rw [← HR4.out]; exact HANY.out (by simpa using h2)) H3.out)
         go_wp2_with fail
         go_ret
         exact HF.out
        ·have b2 : decide ((sx.size : Int) > 200) = false := by simp; omega
         have HN1 := Lib.hid (show bigE (es.take (j + 1)) = false from by
          have q := HNX.out
          unfold bigE at hb ⊢
          rw [q, hb, Bool.false_or]
          simpa using h2)
         go_wp2_with fail
         go_roundw
         case rel => exact ⟨j + 1, by go_num, by omega, HN1.out, H3.out.weaken (A := [_])⟩
         case measure => simp [intOf]; omega
       ·obtain rfl : j = NE := by omega
        rw [← HNE.out, List.take_length] at hb
        have HF := Lib.hid (FIN.out false _ [] (by rw [← HR4.out]; exact hb) hst)
        clear hst hb
        go_wp2_with fail
        go_ret
        exact HF.out
end
end

section
set_option linter.unusedVariables false
set_option linter.unusedSimpArgs false
open Go.RowKit Go.Lib Go.Deep
section
variable {W w : World} {J : Nat → Option Obj} {t : Tb} {F : List (Nat × Obj)}
variable {nA lA pA : Option Addr} {nc lc pc : Nat} {nms : List ByteArray} {es : List En} {ss : List Sp} {t : Tb} {Ln Le Lp : List (Nat × Obj)}
set_option maxRecDepth 100000 in
set_option maxHeartbeats 16000000 in
theorem law_too (tok : t.Ok) (tries : Int) (n : Int) (hnm : Rd W J Ln 1 nA (nmRows nms)) (hnl : ∀ p ∈ Ln, p ∈ F) (hre : Rd W J Le 126 lA (enRows es)) (hle : ∀ p ∈ Le, p ∈ F) (hsp : Rd W J Lp 88 pA (spRows ss)) (hlp : ∀ p ∈ Lp, p ∈ F) (hn63 : nms.length ≤ 9223372036854775807) (he63 : es.length ≤ 9223372036854775807) (hs63 : ss.length ≤ 9223372036854775807) (efit : ∀ e ∈ es, e.Fit) (sfit : ∀ x ∈ ss, x.rep.t.Ok) (h : St W w J F) :
  Calls Tryd.prog 11 #[.agg (hyCells t (.slice nA nms.length nc) tries (.slice lA es.length lc) (.slice pA ss.length pc)), .int .i64 n] w fun e w' => e = .returned (.bool (tooB t nms es ss n)) ∧ St W w' J F := by
 have h1 := h.alloc (.cells (hyCells t (.slice nA nms.length nc) tries (.slice lA es.length lc) (.slice pA ss.length pc)) 45)
 obtain ⟨g, hg⟩ : ∃ g, w.heap.size = g := ⟨_, rfl⟩
 rw [hg] at h1
 have hat := fun (v : World) (X : List (Nat × Obj)) (hv : St W v J X) (hx : (g, Obj.cells (hyCells t (.slice nA nms.length nc) tries (.slice lA es.length lc) (.slice pA ss.length pc)) 45 (0, 0)) ∈ X) => hv.hy tok hx
 have sub1 : ∀ (p q : Nat × Obj), p ∈ F → p ∈ q :: F := fun p q hp => List.mem_cons_of_mem _ hp
 have kg := law_great (nc := nc) (lc := lc) tok hnm (fun p hp => sub1 p _ (hnl p hp)) hre (fun p hp => sub1 p _ (hle p hp)) hn63 he63 efit h1
 obtain ⟨HX, hHX⟩ : ∃ y, hyCells t (.slice nA nms.length nc) tries (.slice lA es.length lc) (.slice pA ss.length pc) = y := ⟨_, rfl⟩
 rw [hHX] at h1 hat kg ⊢
 obtain ⟨R, hR⟩ : ∃ R, tooB t nms es ss n = R := ⟨_, rfl⟩
 have hR2 := hR
 unfold tooB at hR2
 rw [hR]
 obtain ⟨gb, hgb⟩ : ∃ y, greatB t nms es = y := ⟨_, rfl⟩
 rw [hgb] at hR2 kg
 obtain ⟨NS, hNS⟩ : ∃ y, ss.length = y := ⟨_, rfl⟩
 rw [hNS] at hR2 hs63 hat
 have ha := hat _ _ h1 (List.mem_cons_self ..)
 have q0 := ha.first; have q75 := ha.names; have q77 := ha.log
 have ti := tb_info tok
 unfold Tb.val at kg
 obtain ⟨CT, hCT⟩ : ∃ y, t.cells = y := ⟨_, rfl⟩
 rw [hCT] at q0 ti kg
 have fin : ∀ (z : Bool) (v : World) (D : List (Nat × Obj)), R = z → St W v J (D ++ ((g, .cells HX 45 (0, 0)) :: F)) → (Ending.returned (.bool z) = .returned (.bool R) ∧ St W v J F) := fun z v D hz hv => ⟨by rw [hz], hv.keep (D ++ [(g, .cells HX 45 (0, 0))]) (fun i a => by simp only [List.count_append, List.count_cons, List.count_nil]; omega)⟩
 have FIN := Lib.hid fin; have Q0 := Lib.hid q0; have TI := Lib.hid ti; have KG := Lib.hid kg; have HR2 := Lib.hid hR2; have HSP := Lib.hid hsp; have HLP := Lib.hid hlp; have HNS := Lib.hid hNS; have SFIT := Lib.hid sfit; have HAT := Lib.hid hat
 clear fin q0 ti kg hR2 hnm hnl hre hle hsp hlp hNS efit sfit h1 h hR hgb hCT tok hat ha sub1 hHX
 go_enter Tryd.func11, Tryd.ntmps11
 go_wp2_with (with_reducible refine wpList_load_midg 8 rfl (by kernel_rfl) 32 (.tmp 7) rfl g 0 rfl CT _ Q0.out Tryd.underlying32 rfl TI.out ?_)
 refine KG.out.mono ?_
 rintro e w2 ⟨rfl, h2⟩
 have q78 := (HAT.out _ _ h2 (List.mem_cons_self ..)).spans
 have H2 := Lib.hid h2
 clear h2 KG Q0 q75 q77
 cases gb with
 | true =>
  have HF := Lib.hid (FIN.out true _ [] (by rw [← HR2.out]; rfl) H2.out)
  go_wp2_with fail
  go_ret
  exact HF.out
 | false =>
  by_cases h10 : n < NS
  ·have b10 : decide ((NS : Int) > n) = true := by simp; omega
   have HF := Lib.hid (FIN.out true _ [] (by rw [← HR2.out]; simp [h10]) H2.out)
   go_wp2_with fail
   go_ret
   exact HF.out
  ·have b10 : decide ((NS : Int) > n) = false := by simp; omega
   have HR4 := Lib.hid (show bigS ss = R by rw [← HR2.out]; simp [h10])
   clear HR2
   go_wp2_with fail
   clear q78
   go_loopw [24] (fun v wr => ∃ k : Nat, v = .int .i64 (k : Int) ∧ k ≤ NS ∧ bigS (ss.take k) = false ∧ St W wr J ((g, .cells HX 45 (0, 0)) :: F)) (fun v _ => NS - (intOf v).toNat)
   case atStart => exact ⟨0, rfl, by omega, by simp [bigS], H2.out⟩
   case round =>
    obtain ⟨j, rfl, hj, hb, hst⟩ := hrel
    clear H2
    by_cases hjl : j < NS
    ·obtain ⟨x, hx⟩ : ∃ o, ss[j]? = some o := ⟨_, List.getElem?_eq_getElem (by rw [HNS.out]; exact hjl)⟩
     obtain ⟨b, off, rfl, hr⟩ := HSP.out.sp _ _ hst (fun p hp => by simp [HLP.out p hp]) j x hx
     have xok := SFIT.out x (List.mem_of_getElem? hx)
     have xi := sp_info' xok
     have xsz := Sp.size' xok
     have xo := Sp.one x
     have xn := x.name_at
     have h2 := hst.alloc (.cells Tryd.zeroCells40 40)
     have hnx := any_take_succ (fun e : Sp => decide (200 < e.call.name.size)) hx
     have hany := any_of_take (fun e : Sp => decide (200 < e.call.name.size)) hx
     obtain ⟨X, hX⟩ : ∃ X, x.cells = X := ⟨_, rfl⟩
     obtain ⟨sx, hsx⟩ : ∃ y, x.call.name = y := ⟨_, rfl⟩
     rw [hX] at hr xi xsz xo xn
     rw [hsx] at xn
     simp only [hsx] at hnx hany
     have xfit : 0 + X.size ≤ Tryd.zeroCells40.size := by rw [xsz, zspan]; omega
     have xmany : setMany Tryd.zeroCells40 0 X.toList = X := by rw [setMany_whole _ _ (by rw [Array.length_toList, xsz, zspan]), Array.toArray_toList]
     have HRX := Lib.hid hr; have XI := Lib.hid xi; have XO := Lib.hid xo; have XF := Lib.hid xfit; have XM := Lib.hid xmany; have H2 := Lib.hid h2; have HNX := Lib.hid hnx; have HANY := Lib.hid hany; have XN := Lib.hid xn
     clear hst hr xi xo xsz xfit xmany h2 hnx hany xok hX hsx hx xn
     go_wp2_with (first | (with_reducible refine wpList_load_midg 27 rfl (by kernel_rfl) 40 (.tmp 26) rfl b (off + j * 88) rfl X _ HRX.out Tryd.underlying40 rfl XI.out ?_) | (with_reducible refine wpList_store_st rfl 40 (.tmp 6) (.tmp 27) rfl (g := wr.heap.size) (off := 0) X rfl rfl H2.out XF.out XI.out XO.out ?_; intro w3 h3; refine Hid.out ?_))
     refine Lib.hid ?_
     rw [XM.out] at h3
     obtain ⟨gx, hgx⟩ : ∃ y, wr.heap.size = y := ⟨_, rfl⟩
     rw [hgx] at h3 ⊢
     have c6 := (h3.cell (g := gx) (cs := X) (t := 40) (fr := (0, 0)) (List.mem_cons_self ..) 7).trans XN.out
     have H3 := Lib.hid h3
     clear h3 H2 HRX hgx
     by_cases h2 : 200 < sx.size
     ·have b2 : decide ((sx.size : Int) > 200) = true := by simp; omega
      have HF := Lib.hid (FIN.out true _ [(gx, .cells X 40 (0, 0))] (by rw [← HR4.out]; exact HANY.out (by simpa using h2)) H3.out)
      go_wp2_with fail
      go_ret
      exact HF.out
     ·have b2 : decide ((sx.size : Int) > 200) = false := by simp; omega
      have HN1 := Lib.hid (show bigS (ss.take (j + 1)) = false from by
       have q := HNX.out
       unfold bigS at hb ⊢
       rw [q, hb, Bool.false_or]
       simpa using h2)
      go_wp2_with fail
      go_roundw
      case rel => exact ⟨j + 1, by go_num, by omega, HN1.out, H3.out.weaken (A := [_])⟩
      case measure => simp [intOf]; omega
    ·obtain rfl : j = NS := by omega
     rw [← HNS.out, List.take_length] at hb
     have HF := Lib.hid (FIN.out false _ [] (by rw [← HR4.out]; exact hb) hst)
     clear hst hb
     go_wp2_with fail
     go_ret
     exact HF.out
end
end
end Go.Proofs.YtnjnooeldkideaaDoor
