/- order: the law OrderNames. -/
import Derived.Test.YtnjnooeldkideaaDoorOrNd
import Derived.Test.YtnjnooeldkideaaDoorOrTw
import Derived.Test.YtnjnooeldkideaaDoorMOrT
import Derived.Test.YtnjnooeldkideaaDoorAnyO
import Derived.OwnWalk
import Derived.Deep.DeepCutAuto
namespace Go.Proofs.YtnjnooeldkideaaDoor
set_option linter.unusedVariables false
set_option linter.unusedSimpArgs false
open Go.RowKit Go.Lib Go.Deep
section
variable {P : Program} {W w : World} {I : Nat → Option Obj} {F : List (Nat × Obj)} {ops : Array Oper} {o : Oper} {a : Act} {K : Act → World → Prop} {Q : Exit → Act → World → Prop} {E : Prop}
theorem step_bs (hgd : o.guard = none) (t : TypeId) (n : Nat) (ps : Array (Nat × Operand)) (ho : o.op = .buildSlice t n ps) (vs : Array (Nat × Value)) (hvs : (ps.map fun (i, x) => (i, a.eval x)) = vs)
  {X : Array Value} {T : TypeId} {k : Nat} (hr : ∀ w, (Instr.buildSlice t n vs).run P w = .ok (.slice (some ⟨w.heap.size, 0, none⟩) k k) (w.alloc (.cells X T))) (hst : St W w I F)
  (h : ∀ b w', St W w' I ((b, .cells X T (0, 0)) :: F) → K (a.put o.dst (.slice (some ⟨b, 0, none⟩) k k)) w') : if Region.wanted o (yielded ops a.tmps) = true then o.wp P a w K Q else E := by
 rw [if_pos (by simp [Region.wanted, hgd])]
 subst hvs
 unfold Oper.wp execOp
 simp only [ho, Sem.run_bind, hr, Result.andThen_ok]
 exact h _ _ (hst.alloc _)
theorem step_al (hgd : o.guard = none) (t : TypeId) (ho : o.op = .alloc t) {Z : Array Value} (hr : ∀ w, (Instr.alloc t true (.tuple #[])).run P w = .ok (.pointer (some ⟨w.heap.size, 0, none⟩)) (w.alloc (.cells Z t))) (hst : St W w I F)
  (h : ∀ b w', St W w' I ((b, .cells Z t (0, 0)) :: F) → K (a.put o.dst (.pointer (some ⟨b, 0, none⟩))) w') : if Region.wanted o (yielded ops a.tmps) = true then o.wp P a w K Q else E := by
 rw [if_pos (by simp [Region.wanted, hgd])]
 unfold Oper.wp execOp
 simp only [ho, Sem.run_bind, hr, Result.andThen_ok]
 exact h _ _ (hst.alloc _)
theorem run_al_his (w : World) : (Instr.alloc 45 true (.tuple #[])).run Tryd.prog w = .ok (.pointer (some ⟨w.heap.size, 0, none⟩)) (w.alloc (.cells Tryd.zeroCells45 45)) := by go_simp
end
section
variable {W w : World}
set_option maxRecDepth 100000 in
set_option maxHeartbeats 16000000 in
theorem walk_orderNames (W : World) (tabs : Tabs W) : Calls Tryd.prog 3 #[] W fun e w' => e = .returned (.bool true) ∧ Below W.heap.size W w' := by
 have tb := Go.Proofs.YtnjnooeldkideaaDoor.TB.start tabs
 have h0 := St.start W
 have fin : ∀ (v : World) (L : List (Nat × Obj)), St W v (fun b => W.heap[b]?) L → Below W.heap.size W v := fun v L hv => hv.below (Le.refl _)
 have kA := fun (v : World) (L : List (Nat × Obj)) (hv : St W v (fun b => W.heap[b]?) L) => law_alive tb hv
 have kG := fun (v : World) (L : List (Nat × Obj)) (hv : St W v (fun b => W.heap[b]?) L) => law_good hv
 have bc := run_nm_c; have br := run_nm_r; have be1 := run_nm_e1; have be2 := run_nm_e2; have ba := run_nm_a; have bb := run_nm_b
 have rb1 := run_bs_e2 1 2 (by simp); have rb2 := run_bs_e2 2 1 (by simp); have rb3 := run_bs_e1; have rs2 := run_bs_s2; have rs6 := run_bs_s6
 have bh := fun (A B : Option Addr) (n c k d : Nat) => run_nm_h gTb (.inl rfl) A B n c k d
 have bhz := fun (A B : Option Addr) (n c k d : Nat) => run_nm_h zTb (.inr rfl) A B n c k d
 have bz := run_nm_z
 have i_C := cl_info nmC; have o_C := Cl.one nmC
 have f_C : 0 + nmC.cells.size ≤ (#[.int .i64 0, .int .i64 0, .int .i64 0, .int .i64 0, .string ⟨#[]⟩] : Array Value).size := by rw [Cl.size _, show (#[.int .i64 0, .int .i64 0, .int .i64 0, .int .i64 0, .string ⟨#[]⟩] : Array Value).size = 5 from rfl]; omega
 have m_C : setMany (#[.int .i64 0, .int .i64 0, .int .i64 0, .int .i64 0, .string ⟨#[]⟩] : Array Value) 0 nmC.cells.toList = nmC.cells := by rw [setMany_whole _ _ (by rw [Array.length_toList, Cl.size _, show (#[.int .i64 0, .int .i64 0, .int .i64 0, .int .i64 0, .string ⟨#[]⟩] : Array Value).size = 5 from rfl]), Array.toArray_toList]
 have i_R := ry_info nmR_ok.t; have o_R := Ry.one nmR
 have f_R : 0 + nmR.cells.size ≤ Tryd.zeroCells36.size := by rw [Ry.size nmR_ok.t, zry]; omega
 have m_R : setMany Tryd.zeroCells36 0 nmR.cells.toList = nmR.cells := by rw [setMany_whole _ _ (by rw [Array.length_toList, Ry.size nmR_ok.t, zry]), Array.toArray_toList]
 have i_1 := en_info (nmE_ok 1 (.inl rfl)); have o_1 := En.one (nmE 1)
 have f_1 : 0 + (nmE 1).cells.size ≤ Tryd.zeroCells38.size := by rw [En.size (nmE_ok 1 (.inl rfl)), zent]; omega
 have m_1 : setMany Tryd.zeroCells38 0 (nmE 1).cells.toList = (nmE 1).cells := by rw [setMany_whole _ _ (by rw [Array.length_toList, En.size (nmE_ok 1 (.inl rfl)), zent]), Array.toArray_toList]
 have i_2 := en_info (nmE_ok 2 (.inr rfl)); have o_2 := En.one (nmE 2)
 have f_2 : 0 + (nmE 2).cells.size ≤ Tryd.zeroCells38.size := by rw [En.size (nmE_ok 2 (.inr rfl)), zent]; omega
 have m_2 : setMany Tryd.zeroCells38 0 (nmE 2).cells.toList = (nmE 2).cells := by rw [setMany_whole _ _ (by rw [Array.length_toList, En.size (nmE_ok 2 (.inr rfl)), zent]), Array.toArray_toList]
 have i_A := sp_info nmA_ok; have o_A := Sp.one nmA
 have f_A : 0 + nmA.cells.size ≤ Tryd.zeroCells40.size := by rw [Sp.size nmA_ok, zspan]; omega
 have m_A : setMany Tryd.zeroCells40 0 nmA.cells.toList = nmA.cells := by rw [setMany_whole _ _ (by rw [Array.length_toList, Sp.size nmA_ok, zspan]), Array.toArray_toList]
 have i_S := sp_info nmB_ok; have o_S := Sp.one nmB
 have f_S : 0 + nmB.cells.size ≤ Tryd.zeroCells40.size := by rw [Sp.size nmB_ok, zspan]; omega
 have m_S : setMany Tryd.zeroCells40 0 nmB.cells.toList = nmB.cells := by rw [setMany_whole _ _ (by rw [Array.length_toList, Sp.size nmB_ok, zspan]), Array.toArray_toList]
 unfold Tb.val at kG
 obtain ⟨GT, hGT⟩ : ∃ y, gTb.cells = y := ⟨_, rfl⟩
 obtain ⟨ZT, hZT⟩ : ∃ y, zTb.cells = y := ⟨_, rfl⟩
 obtain ⟨QC, hQC⟩ : ∃ y, nmC.cells = y := ⟨_, rfl⟩
 obtain ⟨QR, hQR⟩ : ∃ y, nmR.cells = y := ⟨_, rfl⟩
 obtain ⟨E1, hE1⟩ : ∃ y, (nmE 1).cells = y := ⟨_, rfl⟩
 obtain ⟨E2, hE2⟩ : ∃ y, (nmE 2).cells = y := ⟨_, rfl⟩
 obtain ⟨SA, hSA⟩ : ∃ y, nmA.cells = y := ⟨_, rfl⟩
 obtain ⟨SB, hSB⟩ : ∃ y, nmB.cells = y := ⟨_, rfl⟩
 rw [hGT] at kG br bh
 rw [hZT] at bz bhz
 rw [hQC] at bc be1 be2 ba bb i_C o_C f_C m_C
 rw [hQR] at br be1 be2 ba bb i_R o_R f_R m_R
 rw [hE1] at be1 rb1 rb2 rb3 i_1 o_1 f_1 m_1
 rw [hE2] at be2 rb1 rb2 i_2 o_2 f_2 m_2
 rw [hSA] at ba rs2 rs6 i_A o_A f_A m_A
 rw [hSB] at bb rs2 i_S o_S f_S m_S
 have FIN := Lib.hid fin; have KA := Lib.hid kA; have KG := Lib.hid kG; have BC := Lib.hid bc; have BR := Lib.hid br; have BE1 := Lib.hid be1; have BE2 := Lib.hid be2; have BA := Lib.hid ba; have BB := Lib.hid bb; have RB1 := Lib.hid rb1; have RB2 := Lib.hid rb2; have RB3 := Lib.hid rb3; have RS2 := Lib.hid rs2; have RS6 := Lib.hid rs6; have BH := Lib.hid bh; have BHZ := Lib.hid bhz; have BZ := Lib.hid bz; have H0 := Lib.hid h0; have TB0 := Lib.hid tb
 have I_C := Lib.hid i_C; have O_C := Lib.hid o_C; have F_C := Lib.hid f_C; have M_C := Lib.hid m_C
 clear i_C o_C f_C m_C
 have I_R := Lib.hid i_R; have O_R := Lib.hid o_R; have F_R := Lib.hid f_R; have M_R := Lib.hid m_R
 clear i_R o_R f_R m_R
 have I_1 := Lib.hid i_1; have O_1 := Lib.hid o_1; have F_1 := Lib.hid f_1; have M_1 := Lib.hid m_1
 clear i_1 o_1 f_1 m_1
 have I_2 := Lib.hid i_2; have O_2 := Lib.hid o_2; have F_2 := Lib.hid f_2; have M_2 := Lib.hid m_2
 clear i_2 o_2 f_2 m_2
 have I_A := Lib.hid i_A; have O_A := Lib.hid o_A; have F_A := Lib.hid f_A; have M_A := Lib.hid m_A
 clear i_A o_A f_A m_A
 have I_S := Lib.hid i_S; have O_S := Lib.hid o_S; have F_S := Lib.hid f_S; have M_S := Lib.hid m_S
 clear i_S o_S f_S m_S
 clear fin kA kG bc br be1 be2 ba bb rb1 rb2 rb3 rs2 rs6 bh bhz bz h0 tb tabs hZT hQC hQR hE1 hE2 hSA hSB
 have hGT2 := Lib.hid hGT
 clear hGT
 go_enter Tryd.func3, Tryd.ntmps3
 go_wp2_with fail
 refine (KA.out _ _ H0.out).mono ?_
 rintro e w1 ⟨rfl, h1⟩
 have H1 := Lib.hid (h1.alloc (.cells #[.int .i64 0, .int .i64 0, .int .i64 0, .int .i64 0, .string ⟨#[]⟩] 24))
 clear h1 H0
 go_wp2_with (first
  | (with_reducible refine wpList_build_go rfl 24 _ rfl _ ?_ (BC.out _) ?_; · go_simp)
  | (with_reducible refine wpList_store_st rfl 24 (.tmp 1) (.tmp 14) rfl (g := w1.heap.size) (off := 0) QC rfl rfl H1.out F_C.out I_C.out O_C.out ?_; intro w2 h2; refine Hid.out ?_))
 refine Lib.hid ?_
 rw [M_C.out] at h2
 obtain ⟨gq, hgq⟩ : ∃ y, w1.heap.size = y := ⟨_, rfl⟩
 rw [hgq] at h2 ⊢
 have H2 := Lib.hid h2
 clear h2 H1 hgq
 go_wp2_with fail
 refine (KG.out _ _ H2.out).mono ?_
 rintro e w3 ⟨rfl, h3⟩
 have H3 := Lib.hid (h3.alloc (.cells Tryd.zeroCells36 36))
 clear h3 H2
 go_wp2_with (first
  | (with_reducible refine wpList_build_go rfl 36 _ rfl _ ?_ (BR.out _) ?_; · go_simp)
  | (with_reducible refine wpList_store_st rfl 36 (.tmp 2) (.tmp 16) rfl (g := w3.heap.size) (off := 0) QR rfl rfl H3.out F_R.out I_R.out O_R.out ?_; intro w4 h4; refine Hid.out ?_))
 refine Lib.hid ?_
 rw [M_R.out] at h4
 obtain ⟨gr, hgr⟩ : ∃ y, w3.heap.size = y := ⟨_, rfl⟩
 rw [hgr] at h4 ⊢
 have rg : ∀ v L, St W v (fun b => W.heap[b]?) L → (gr, .cells QR 36 (0, 0)) ∈ L → (gq, .cells QC 24 (0, 0)) ∈ L → v.rangeAt gq 0 QC.toList ∧ v.rangeAt gr 0 QR.toList := fun v L hv h1 h2 => ⟨fun i u hi => by rw [Nat.zero_add, hv.cell h2 i]; simpa using hi, fun i u hi => by rw [Nat.zero_add, hv.cell h1 i]; simpa using hi⟩
 have RG := Lib.hid rg
 have H4 := Lib.hid h4
 clear h4 H3 hgr rg
 have H4A := Lib.hid (H4.out.alloc (.cells Tryd.zeroCells38 38))
 have R4 := Lib.hid (RG.out _ _ H4.out (by simp) (by simp))
 go_wp2_with (first
  | (with_reducible refine wpList_load_midg 17 rfl (by kernel_rfl) 24 (.tmp 1) rfl gq 0 rfl QC _ R4.out.1 Tryd.underlying24 rfl I_C.out ?_)
  | (with_reducible refine wpList_load_midg 18 rfl (by kernel_rfl) 36 (.tmp 2) rfl gr 0 rfl QR _ R4.out.2 Tryd.underlying36 rfl I_R.out ?_)
  | (with_reducible refine wpList_build_go rfl 38 _ rfl _ ?_ (BE1.out _) ?_; · go_simp)
  | (with_reducible refine wpList_store_st rfl 38 (.tmp 3) (.tmp 19) rfl (g := w4.heap.size) (off := 0) E1 rfl rfl H4A.out F_1.out I_1.out O_1.out ?_; intro w5 h5; refine Hid.out ?_))
 refine Lib.hid ?_
 rw [M_1.out] at h5
 obtain ⟨g3, hg3⟩ : ∃ y, w4.heap.size = y := ⟨_, rfl⟩
 rw [hg3] at h5 ⊢
 have H5 := Lib.hid h5
 clear h5 H4 H4A R4 hg3
 have H5A := Lib.hid (H5.out.alloc (.cells Tryd.zeroCells38 38))
 have R5 := Lib.hid (RG.out _ _ H5.out (by simp) (by simp))
 go_wp2_with (first
  | (with_reducible refine wpList_load_midg 20 rfl (by kernel_rfl) 24 (.tmp 1) rfl gq 0 rfl QC _ R5.out.1 Tryd.underlying24 rfl I_C.out ?_)
  | (with_reducible refine wpList_load_midg 21 rfl (by kernel_rfl) 36 (.tmp 2) rfl gr 0 rfl QR _ R5.out.2 Tryd.underlying36 rfl I_R.out ?_)
  | (with_reducible refine wpList_build_go rfl 38 _ rfl _ ?_ (BE2.out _) ?_; · go_simp)
  | (with_reducible refine wpList_store_st rfl 38 (.tmp 4) (.tmp 22) rfl (g := w5.heap.size) (off := 0) E2 rfl rfl H5A.out F_2.out I_2.out O_2.out ?_; intro w6 h6; refine Hid.out ?_))
 refine Lib.hid ?_
 rw [M_2.out] at h6
 obtain ⟨g4, hg4⟩ : ∃ y, w5.heap.size = y := ⟨_, rfl⟩
 rw [hg4] at h6 ⊢
 have H6 := Lib.hid h6
 clear h6 H5 H5A R5 hg4
 have H6A := Lib.hid (H6.out.alloc (.cells Tryd.zeroCells40 40))
 have R6 := Lib.hid (RG.out _ _ H6.out (by simp) (by simp))
 go_wp2_with (first
  | (with_reducible refine wpList_load_midg 23 rfl (by kernel_rfl) 24 (.tmp 1) rfl gq 0 rfl QC _ R6.out.1 Tryd.underlying24 rfl I_C.out ?_)
  | (with_reducible refine wpList_load_midg 24 rfl (by kernel_rfl) 36 (.tmp 2) rfl gr 0 rfl QR _ R6.out.2 Tryd.underlying36 rfl I_R.out ?_)
  | (with_reducible refine wpList_build_go rfl 40 _ rfl _ ?_ (BA.out _) ?_; · go_simp)
  | (with_reducible refine wpList_store_st rfl 40 (.tmp 5) (.tmp 25) rfl (g := w6.heap.size) (off := 0) SA rfl rfl H6A.out F_A.out I_A.out O_A.out ?_; intro w7 h7; refine Hid.out ?_))
 refine Lib.hid ?_
 rw [M_A.out] at h7
 obtain ⟨g5, hg5⟩ : ∃ y, w6.heap.size = y := ⟨_, rfl⟩
 rw [hg5] at h7 ⊢
 have H7 := Lib.hid h7
 clear h7 H6 H6A R6 hg5
 have H7A := Lib.hid (H7.out.alloc (.cells Tryd.zeroCells40 40))
 have R7 := Lib.hid (RG.out _ _ H7.out (by simp) (by simp))
 go_wp2_with (first
  | (with_reducible refine wpList_load_midg 26 rfl (by kernel_rfl) 24 (.tmp 1) rfl gq 0 rfl QC _ R7.out.1 Tryd.underlying24 rfl I_C.out ?_)
  | (with_reducible refine wpList_load_midg 27 rfl (by kernel_rfl) 36 (.tmp 2) rfl gr 0 rfl QR _ R7.out.2 Tryd.underlying36 rfl I_R.out ?_)
  | (with_reducible refine wpList_build_go rfl 40 _ rfl _ ?_ (BB.out _) ?_; · go_simp)
  | (with_reducible refine wpList_store_st rfl 40 (.tmp 6) (.tmp 28) rfl (g := w7.heap.size) (off := 0) SB rfl rfl H7A.out F_S.out I_S.out O_S.out ?_; intro w8 h8; refine Hid.out ?_))
 refine Lib.hid ?_
 rw [M_S.out] at h8
 obtain ⟨g6, hg6⟩ : ∃ y, w7.heap.size = y := ⟨_, rfl⟩
 rw [hg6] at h8 ⊢
 have H8 := Lib.hid h8
 clear h8 H7 H7A R7 hg6
 have fs : ∀ v L, St W v (fun b => W.heap[b]?) L → (g3, Obj.cells E1 38 (0, 0)) ∈ L → (g4, Obj.cells E2 38 (0, 0)) ∈ L → (g5, Obj.cells SA 40 (0, 0)) ∈ L → (g6, Obj.cells SB 40 (0, 0)) ∈ L → v.rangeAt g3 0 E1.toList ∧ v.rangeAt g4 0 E2.toList ∧ v.rangeAt g5 0 SA.toList ∧ v.rangeAt g6 0 SB.toList := fun v L hv h1 h2 h3 h4 => ⟨fun i u hi => by rw [Nat.zero_add, hv.cell h1 i]; simpa using hi, fun i u hi => by rw [Nat.zero_add, hv.cell h2 i]; simpa using hi, fun i u hi => by rw [Nat.zero_add, hv.cell h3 i]; simpa using hi, fun i u hi => by rw [Nat.zero_add, hv.cell h4 i]; simpa using hi⟩
 have FSx := Lib.hid fs
 have HUE := Lib.hid Tryd.underlying38
 have HUS := Lib.hid Tryd.underlying40
 have IE1 : Hid ((Tryd.prog.info? 38).map (·.size) = some E1.toList.length) := Lib.hid (by rw [Array.length_toList]; exact I_1.out)
 have IE2 : Hid ((Tryd.prog.info? 38).map (·.size) = some E2.toList.length) := Lib.hid (by rw [Array.length_toList]; exact I_2.out)
 have ISA : Hid ((Tryd.prog.info? 40).map (·.size) = some SA.toList.length) := Lib.hid (by rw [Array.length_toList]; exact I_A.out)
 have ISB : Hid ((Tryd.prog.info? 40).map (·.size) = some SB.toList.length) := Lib.hid (by rw [Array.length_toList]; exact I_S.out)
 have HAL := Lib.hid run_al_his
 obtain ⟨L12, hL12⟩ : ∃ y, nmCells [nmE 1, nmE 2] = y := ⟨_, rfl⟩
 obtain ⟨L21, hL21⟩ : ∃ y, nmCells [nmE 2, nmE 1] = y := ⟨_, rfl⟩
 obtain ⟨L1, hL1⟩ : ∃ y, nmCells [nmE 1] = y := ⟨_, rfl⟩
 obtain ⟨S2, hS2⟩ : ∃ y, nmSpans [nmA, nmB] = y := ⟨_, rfl⟩
 obtain ⟨S6, hS6⟩ : ∃ y, nmSpans [nmA, nmA, nmA, nmA, nmA, nmA] = y := ⟨_, rfl⟩
 rw [hL12] at RB1
 rw [hL21] at RB2
 rw [hL1] at RB3
 rw [hS2] at RS2
 rw [hS6] at RS6
 obtain ⟨HF1, hHF1⟩ : ∃ y : Nat → Nat → Array Value, (fun l p => hyCells gTb (.slice none 0 0) 0 (.slice (some ⟨l, 0, none⟩) 2 2) (.slice (some ⟨p, 0, none⟩) 2 2)) = y := ⟨_, rfl⟩
 have hq1 : ∀ l p, hyCells gTb (.slice none 0 0) 0 (.slice (some ⟨l, 0, none⟩) 2 2) (.slice (some ⟨p, 0, none⟩) 2 2) = HF1 l p := fun l p => by rw [← hHF1]
 have sz1 : ∀ l p, (HF1 l p).size = 79 := fun l p => by rw [← hq1]; exact hy_size gTb_ok _ _ _ _
 have FI1 : Hid (∀ l p, 0 + (HF1 l p).size ≤ Tryd.zeroCells45.size) := Lib.hid fun l p => by rw [sz1, zhis]; omega
 have IN1 : Hid (∀ l p, (Tryd.prog.info? 45).map (·.size) = some (HF1 l p).size) := Lib.hid fun l p => by rw [sz1]; kernel_rfl
 have ON1 : Hid (∀ l p, (HF1 l p).all (·.oneCell') = true) := Lib.hid fun l p => by rw [← hq1]; exact hy_one _ _ _ _ _ rfl rfl rfl
 have MA1 : Hid (∀ l p, setMany Tryd.zeroCells45 0 (HF1 l p).toList = HF1 l p) := Lib.hid fun l p => by rw [setMany_whole _ _ (by rw [Array.length_toList, sz1, zhis]), Array.toArray_toList]
 have BU1 : Hid (∀ (l p : Nat) (w : World), (Instr.build 45 #[(0, .agg GT), (3, (.slice (some ⟨l, 0, none⟩) 2 2)), (4, (.slice (some ⟨p, 0, none⟩) 2 2))]).run Tryd.prog w = .ok (.agg (HF1 l p)) w) := Lib.hid fun l p w => by rw [← hq1]; exact BH.out (some ⟨l, 0, none⟩) (some ⟨p, 0, none⟩) 2 2 2 2 w
 have hk1 : ∀ (l p : Nat) (X : List (Nat × Obj)), (l, Obj.cells L12 38 (0, 0)) ∈ X → (p, Obj.cells S2 40 (0, 0)) ∈ X → HyOk W (fun b => W.heap[b]?) X gTb none [] 0 (some ⟨l, 0, none⟩) [nmE 1, nmE 2] (some ⟨p, 0, none⟩) [nmA, nmB] := fun l p X h1 h2 =>
  nm_hy (by simp) (by simp) (by simp) (by decide) (by decide) (rd_row (b := l) (k := 126) (n := 2) (T := 38) (by decide) hL12 (enRows_len _ (fun e he => by simp at he; rcases he with rfl | rfl; exact nmE_ok 1 (.inl rfl); exact nmE_ok 2 (.inr rfl))) (by rw [← hL12]; kernel_rfl) (by decide)) (rd_row (b := p) (k := 88) (n := 2) (T := 40) (by decide) hS2 (spRows_len _ (fun e he => by simp at he; rcases he with rfl | rfl; exact nmA_ok; exact nmB_ok)) (by rw [← hS2]; kernel_rfl) (by decide)) (by simp [h1]) (by simp [h2])
 have KC1 : Hid (∀ (l p : Nat) (v : World) (X : List (Nat × Obj)), St W v (fun b => W.heap[b]?) X → (l, Obj.cells L12 38 (0, 0)) ∈ X → (p, Obj.cells S2 40 (0, 0)) ∈ X → Calls Tryd.prog 9 #[.agg (HF1 l p)] v fun e w' => e = .returned (.int .i64 0) ∧ St W w' (fun b => W.heap[b]?) X) := Lib.hid fun l p v X hv h1 h2 => by
  have q := o_check (nc := 0) (lc := 2) (pc := 2) TB0.out 0 (hk1 l p X h1 h2) hv
  rw [nm_c1] at q
  rw [← hq1]
  exact q
 have KF1 : Hid (∀ (l p : Nat) (v : World) (X : List (Nat × Obj)), St W v (fun b => W.heap[b]?) X → (l, Obj.cells L12 38 (0, 0)) ∈ X → (p, Obj.cells S2 40 (0, 0)) ∈ X → Calls Tryd.prog 10 #[.agg (HF1 l p)] v fun e w' => e = .returned (.int .i64 0) ∧ St W w' (fun b => W.heap[b]?) X) := Lib.hid fun l p v X hv h1 h2 => by
  have q := o_find (nc := 0) (lc := 2) (pc := 2) TB0.out 0 (hk1 l p X h1 h2) hv
  rw [nm_f1] at q
  rw [← hq1]
  exact q
 obtain ⟨HF2, hHF2⟩ : ∃ y : Nat → Nat → Array Value, (fun l p => hyCells gTb (.slice none 0 0) 0 (.slice (some ⟨l, 0, none⟩) 2 2) (.slice (some ⟨p, 0, none⟩) 2 2)) = y := ⟨_, rfl⟩
 have hq2 : ∀ l p, hyCells gTb (.slice none 0 0) 0 (.slice (some ⟨l, 0, none⟩) 2 2) (.slice (some ⟨p, 0, none⟩) 2 2) = HF2 l p := fun l p => by rw [← hHF2]
 have sz2 : ∀ l p, (HF2 l p).size = 79 := fun l p => by rw [← hq2]; exact hy_size gTb_ok _ _ _ _
 have FI2 : Hid (∀ l p, 0 + (HF2 l p).size ≤ Tryd.zeroCells45.size) := Lib.hid fun l p => by rw [sz2, zhis]; omega
 have IN2 : Hid (∀ l p, (Tryd.prog.info? 45).map (·.size) = some (HF2 l p).size) := Lib.hid fun l p => by rw [sz2]; kernel_rfl
 have ON2 : Hid (∀ l p, (HF2 l p).all (·.oneCell') = true) := Lib.hid fun l p => by rw [← hq2]; exact hy_one _ _ _ _ _ rfl rfl rfl
 have MA2 : Hid (∀ l p, setMany Tryd.zeroCells45 0 (HF2 l p).toList = HF2 l p) := Lib.hid fun l p => by rw [setMany_whole _ _ (by rw [Array.length_toList, sz2, zhis]), Array.toArray_toList]
 have BU2 : Hid (∀ (l p : Nat) (w : World), (Instr.build 45 #[(0, .agg GT), (3, (.slice (some ⟨l, 0, none⟩) 2 2)), (4, (.slice (some ⟨p, 0, none⟩) 2 2))]).run Tryd.prog w = .ok (.agg (HF2 l p)) w) := Lib.hid fun l p w => by rw [← hq2]; exact BH.out (some ⟨l, 0, none⟩) (some ⟨p, 0, none⟩) 2 2 2 2 w
 have hk2 : ∀ (l p : Nat) (X : List (Nat × Obj)), (l, Obj.cells L21 38 (0, 0)) ∈ X → (p, Obj.cells S2 40 (0, 0)) ∈ X → HyOk W (fun b => W.heap[b]?) X gTb none [] 0 (some ⟨l, 0, none⟩) [nmE 2, nmE 1] (some ⟨p, 0, none⟩) [nmA, nmB] := fun l p X h1 h2 =>
  nm_hy (by simp) (by simp) (by simp) (by decide) (by decide) (rd_row (b := l) (k := 126) (n := 2) (T := 38) (by decide) hL21 (enRows_len _ (fun e he => by simp at he; rcases he with rfl | rfl; exact nmE_ok 2 (.inr rfl); exact nmE_ok 1 (.inl rfl))) (by rw [← hL21]; kernel_rfl) (by decide)) (rd_row (b := p) (k := 88) (n := 2) (T := 40) (by decide) hS2 (spRows_len _ (fun e he => by simp at he; rcases he with rfl | rfl; exact nmA_ok; exact nmB_ok)) (by rw [← hS2]; kernel_rfl) (by decide)) (by simp [h1]) (by simp [h2])
 have KC2 : Hid (∀ (l p : Nat) (v : World) (X : List (Nat × Obj)), St W v (fun b => W.heap[b]?) X → (l, Obj.cells L21 38 (0, 0)) ∈ X → (p, Obj.cells S2 40 (0, 0)) ∈ X → Calls Tryd.prog 9 #[.agg (HF2 l p)] v fun e w' => e = .returned (.int .i64 263) ∧ St W w' (fun b => W.heap[b]?) X) := Lib.hid fun l p v X hv h1 h2 => by
  have q := o_check (nc := 0) (lc := 2) (pc := 2) TB0.out 0 (hk2 l p X h1 h2) hv
  rw [nm_c2] at q
  rw [← hq2]
  exact q
 have KF2 : Hid (∀ (l p : Nat) (v : World) (X : List (Nat × Obj)), St W v (fun b => W.heap[b]?) X → (l, Obj.cells L21 38 (0, 0)) ∈ X → (p, Obj.cells S2 40 (0, 0)) ∈ X → Calls Tryd.prog 10 #[.agg (HF2 l p)] v fun e w' => e = .returned (.int .i64 0) ∧ St W w' (fun b => W.heap[b]?) X) := Lib.hid fun l p v X hv h1 h2 => by
  have q := o_find (nc := 0) (lc := 2) (pc := 2) TB0.out 0 (hk2 l p X h1 h2) hv
  rw [nm_f2] at q
  rw [← hq2]
  exact q
 obtain ⟨HF3, hHF3⟩ : ∃ y : Nat → Nat → Array Value, (fun l p => hyCells gTb (.slice none 0 0) 0 (.slice (some ⟨l, 0, none⟩) 1 1) (.slice (some ⟨p, 0, none⟩) 2 2)) = y := ⟨_, rfl⟩
 have hq3 : ∀ l p, hyCells gTb (.slice none 0 0) 0 (.slice (some ⟨l, 0, none⟩) 1 1) (.slice (some ⟨p, 0, none⟩) 2 2) = HF3 l p := fun l p => by rw [← hHF3]
 have sz3 : ∀ l p, (HF3 l p).size = 79 := fun l p => by rw [← hq3]; exact hy_size gTb_ok _ _ _ _
 have FI3 : Hid (∀ l p, 0 + (HF3 l p).size ≤ Tryd.zeroCells45.size) := Lib.hid fun l p => by rw [sz3, zhis]; omega
 have IN3 : Hid (∀ l p, (Tryd.prog.info? 45).map (·.size) = some (HF3 l p).size) := Lib.hid fun l p => by rw [sz3]; kernel_rfl
 have ON3 : Hid (∀ l p, (HF3 l p).all (·.oneCell') = true) := Lib.hid fun l p => by rw [← hq3]; exact hy_one _ _ _ _ _ rfl rfl rfl
 have MA3 : Hid (∀ l p, setMany Tryd.zeroCells45 0 (HF3 l p).toList = HF3 l p) := Lib.hid fun l p => by rw [setMany_whole _ _ (by rw [Array.length_toList, sz3, zhis]), Array.toArray_toList]
 have BU3 : Hid (∀ (l p : Nat) (w : World), (Instr.build 45 #[(0, .agg GT), (3, (.slice (some ⟨l, 0, none⟩) 1 1)), (4, (.slice (some ⟨p, 0, none⟩) 2 2))]).run Tryd.prog w = .ok (.agg (HF3 l p)) w) := Lib.hid fun l p w => by rw [← hq3]; exact BH.out (some ⟨l, 0, none⟩) (some ⟨p, 0, none⟩) 1 1 2 2 w
 have hk3 : ∀ (l p : Nat) (X : List (Nat × Obj)), (l, Obj.cells L1 38 (0, 0)) ∈ X → (p, Obj.cells S2 40 (0, 0)) ∈ X → HyOk W (fun b => W.heap[b]?) X gTb none [] 0 (some ⟨l, 0, none⟩) [nmE 1] (some ⟨p, 0, none⟩) [nmA, nmB] := fun l p X h1 h2 =>
  nm_hy (by simp) (by simp) (by simp) (by decide) (by decide) (rd_row (b := l) (k := 126) (n := 1) (T := 38) (by decide) hL1 (enRows_len _ (fun e he => by simp at he; rcases he with rfl; exact nmE_ok 1 (.inl rfl))) (by rw [← hL1]; kernel_rfl) (by decide)) (rd_row (b := p) (k := 88) (n := 2) (T := 40) (by decide) hS2 (spRows_len _ (fun e he => by simp at he; rcases he with rfl | rfl; exact nmA_ok; exact nmB_ok)) (by rw [← hS2]; kernel_rfl) (by decide)) (by simp [h1]) (by simp [h2])
 have KC3 : Hid (∀ (l p : Nat) (v : World) (X : List (Nat × Obj)), St W v (fun b => W.heap[b]?) X → (l, Obj.cells L1 38 (0, 0)) ∈ X → (p, Obj.cells S2 40 (0, 0)) ∈ X → Calls Tryd.prog 9 #[.agg (HF3 l p)] v fun e w' => e = .returned (.int .i64 262) ∧ St W w' (fun b => W.heap[b]?) X) := Lib.hid fun l p v X hv h1 h2 => by
  have q := o_check (nc := 0) (lc := 1) (pc := 2) TB0.out 0 (hk3 l p X h1 h2) hv
  rw [nm_c3] at q
  rw [← hq3]
  exact q
 obtain ⟨HF4, hHF4⟩ : ∃ y : Nat → Nat → Array Value, (fun l p => hyCells zTb (.slice none 0 0) 0 (.slice (some ⟨l, 0, none⟩) 2 2) (.slice (some ⟨p, 0, none⟩) 2 2)) = y := ⟨_, rfl⟩
 have hq4 : ∀ l p, hyCells zTb (.slice none 0 0) 0 (.slice (some ⟨l, 0, none⟩) 2 2) (.slice (some ⟨p, 0, none⟩) 2 2) = HF4 l p := fun l p => by rw [← hHF4]
 have sz4 : ∀ l p, (HF4 l p).size = 79 := fun l p => by rw [← hq4]; exact hy_size zTb_ok _ _ _ _
 have FI4 : Hid (∀ l p, 0 + (HF4 l p).size ≤ Tryd.zeroCells45.size) := Lib.hid fun l p => by rw [sz4, zhis]; omega
 have IN4 : Hid (∀ l p, (Tryd.prog.info? 45).map (·.size) = some (HF4 l p).size) := Lib.hid fun l p => by rw [sz4]; kernel_rfl
 have ON4 : Hid (∀ l p, (HF4 l p).all (·.oneCell') = true) := Lib.hid fun l p => by rw [← hq4]; exact hy_one _ _ _ _ _ rfl rfl rfl
 have MA4 : Hid (∀ l p, setMany Tryd.zeroCells45 0 (HF4 l p).toList = HF4 l p) := Lib.hid fun l p => by rw [setMany_whole _ _ (by rw [Array.length_toList, sz4, zhis]), Array.toArray_toList]
 have BU4 : Hid (∀ (l p : Nat) (w : World), (Instr.build 45 #[(0, .agg ZT), (3, (.slice (some ⟨l, 0, none⟩) 2 2)), (4, (.slice (some ⟨p, 0, none⟩) 2 2))]).run Tryd.prog w = .ok (.agg (HF4 l p)) w) := Lib.hid fun l p w => by rw [← hq4]; exact BHZ.out (some ⟨l, 0, none⟩) (some ⟨p, 0, none⟩) 2 2 2 2 w
 have hk4 : ∀ (l p : Nat) (X : List (Nat × Obj)), (l, Obj.cells L12 38 (0, 0)) ∈ X → (p, Obj.cells S2 40 (0, 0)) ∈ X → HyOk W (fun b => W.heap[b]?) X zTb none [] 0 (some ⟨l, 0, none⟩) [nmE 1, nmE 2] (some ⟨p, 0, none⟩) [nmA, nmB] := fun l p X h1 h2 =>
  nm_hy (by simp) (by simp) (by simp) (by decide) (by decide) (rd_row (b := l) (k := 126) (n := 2) (T := 38) (by decide) hL12 (enRows_len _ (fun e he => by simp at he; rcases he with rfl | rfl; exact nmE_ok 1 (.inl rfl); exact nmE_ok 2 (.inr rfl))) (by rw [← hL12]; kernel_rfl) (by decide)) (rd_row (b := p) (k := 88) (n := 2) (T := 40) (by decide) hS2 (spRows_len _ (fun e he => by simp at he; rcases he with rfl | rfl; exact nmA_ok; exact nmB_ok)) (by rw [← hS2]; kernel_rfl) (by decide)) (by simp [h1]) (by simp [h2])
 have KC4 : Hid (∀ (l p : Nat) (v : World) (X : List (Nat × Obj)), St W v (fun b => W.heap[b]?) X → (l, Obj.cells L12 38 (0, 0)) ∈ X → (p, Obj.cells S2 40 (0, 0)) ∈ X → Calls Tryd.prog 9 #[.agg (HF4 l p)] v fun e w' => e = .returned (.int .i64 261) ∧ St W w' (fun b => W.heap[b]?) X) := Lib.hid fun l p v X hv h1 h2 => by
  have q := o_check (nc := 0) (lc := 2) (pc := 2) TB0.out 0 (hk4 l p X h1 h2) hv
  rw [nm_c4] at q
  rw [← hq4]
  exact q
 have KF4 : Hid (∀ (l p : Nat) (v : World) (X : List (Nat × Obj)), St W v (fun b => W.heap[b]?) X → (l, Obj.cells L12 38 (0, 0)) ∈ X → (p, Obj.cells S2 40 (0, 0)) ∈ X → Calls Tryd.prog 10 #[.agg (HF4 l p)] v fun e w' => e = .returned (.int .i64 261) ∧ St W w' (fun b => W.heap[b]?) X) := Lib.hid fun l p v X hv h1 h2 => by
  have q := o_find (nc := 0) (lc := 2) (pc := 2) TB0.out 0 (hk4 l p X h1 h2) hv
  rw [nm_f4] at q
  rw [← hq4]
  exact q
 obtain ⟨HF5, hHF5⟩ : ∃ y : Nat → Nat → Array Value, (fun l p => hyCells gTb (.slice none 0 0) 0 (.slice none 0 0) (.slice (some ⟨p, 0, none⟩) 6 6)) = y := ⟨_, rfl⟩
 have hq5 : ∀ l p, hyCells gTb (.slice none 0 0) 0 (.slice none 0 0) (.slice (some ⟨p, 0, none⟩) 6 6) = HF5 l p := fun l p => by rw [← hHF5]
 have sz5 : ∀ l p, (HF5 l p).size = 79 := fun l p => by rw [← hq5]; exact hy_size gTb_ok _ _ _ _
 have FI5 : Hid (∀ l p, 0 + (HF5 l p).size ≤ Tryd.zeroCells45.size) := Lib.hid fun l p => by rw [sz5, zhis]; omega
 have IN5 : Hid (∀ l p, (Tryd.prog.info? 45).map (·.size) = some (HF5 l p).size) := Lib.hid fun l p => by rw [sz5]; kernel_rfl
 have ON5 : Hid (∀ l p, (HF5 l p).all (·.oneCell') = true) := Lib.hid fun l p => by rw [← hq5]; exact hy_one _ _ _ _ _ rfl rfl rfl
 have MA5 : Hid (∀ l p, setMany Tryd.zeroCells45 0 (HF5 l p).toList = HF5 l p) := Lib.hid fun l p => by rw [setMany_whole _ _ (by rw [Array.length_toList, sz5, zhis]), Array.toArray_toList]
 have BU5 : Hid (∀ (l p : Nat) (w : World), (Instr.build 45 #[(0, .agg GT), (4, (.slice (some ⟨p, 0, none⟩) 6 6))]).run Tryd.prog w = .ok (.agg (HF5 l p)) w) := Lib.hid fun l p w => by rw [← hq5]; exact by rw [← hGT2.out]; exact run_build_alh (some ⟨p, 0, none⟩) 6 6 w
 have hk5 : ∀ (p : Nat) (X : List (Nat × Obj)), (p, Obj.cells S6 40 (0, 0)) ∈ X → HyOk W (fun b => W.heap[b]?) X gTb none [] 0 none [] (some ⟨p, 0, none⟩) [nmA, nmA, nmA, nmA, nmA, nmA] := fun p X h2 =>
  nm_hy (.inl rfl) (by simp) (by simp) (by decide) (by decide) rd_nil (rd_row (b := p) (k := 88) (n := 6) (T := 40) (by decide) hS6 (spRows_len _ (fun e he => by simp at he; subst he; exact nmA_ok)) (by rw [← hS6]; kernel_rfl) (by decide)) (by simp) (by simp [h2])
 have KF5 : Hid (∀ (l p : Nat) (v : World) (X : List (Nat × Obj)), St W v (fun b => W.heap[b]?) X → (p, Obj.cells S6 40 (0, 0)) ∈ X → Calls Tryd.prog 10 #[.agg (HF5 l p)] v fun e w' => e = .returned (.int .i64 264) ∧ St W w' (fun b => W.heap[b]?) X) := Lib.hid fun l p v X hv h2 => by
  have q := o_find (nc := 0) (lc := 0) (pc := 6) TB0.out 0 (hk5 p X h2) hv
  rw [nm_f5] at q
  rw [← hq5]
  exact q
 clear hk1 hk2 hk3 hk4 hk5 sz1 sz2 sz3 sz4 sz5 hHF1 hHF2 hHF3 hHF4 hHF5 hq1 hq2 hq3 hq4 hq5 hL12 hL21 hL1 hS2 hS6 TB0
 clear fs
 have HM : Hid ((g3, Obj.cells E1 38 (0, 0)) ∈ (g6, Obj.cells SB 40 (0, 0)) :: (g5, Obj.cells SA 40 (0, 0)) :: (g4, Obj.cells E2 38 (0, 0)) :: (g3, Obj.cells E1 38 (0, 0)) :: (gr, Obj.cells QR 36 (0, 0)) :: (gq, Obj.cells QC 24 (0, 0)) :: [] ∧ (g4, Obj.cells E2 38 (0, 0)) ∈ (g6, Obj.cells SB 40 (0, 0)) :: (g5, Obj.cells SA 40 (0, 0)) :: (g4, Obj.cells E2 38 (0, 0)) :: (g3, Obj.cells E1 38 (0, 0)) :: (gr, Obj.cells QR 36 (0, 0)) :: (gq, Obj.cells QC 24 (0, 0)) :: [] ∧ (g5, Obj.cells SA 40 (0, 0)) ∈ (g6, Obj.cells SB 40 (0, 0)) :: (g5, Obj.cells SA 40 (0, 0)) :: (g4, Obj.cells E2 38 (0, 0)) :: (g3, Obj.cells E1 38 (0, 0)) :: (gr, Obj.cells QR 36 (0, 0)) :: (gq, Obj.cells QC 24 (0, 0)) :: [] ∧ (g6, Obj.cells SB 40 (0, 0)) ∈ (g6, Obj.cells SB 40 (0, 0)) :: (g5, Obj.cells SA 40 (0, 0)) :: (g4, Obj.cells E2 38 (0, 0)) :: (g3, Obj.cells E1 38 (0, 0)) :: (gr, Obj.cells QR 36 (0, 0)) :: (gq, Obj.cells QC 24 (0, 0)) :: []) := Lib.hid (by simp)
 go_upto_region 9 with fail
 go_cut [7] (fun s7 wx => ∃ b7 b1 b2 LN, s7 = .pointer (some ⟨b7, 0, none⟩) ∧ (∀ p ∈ ((g6, Obj.cells SB 40 (0, 0)) :: (g5, Obj.cells SA 40 (0, 0)) :: (g4, Obj.cells E2 38 (0, 0)) :: (g3, Obj.cells E1 38 (0, 0)) :: (gr, Obj.cells QR 36 (0, 0)) :: (gq, Obj.cells QC 24 (0, 0)) :: []), p ∈ LN) ∧ (b7, Obj.cells (HF1 b1 b2) 45 (0, 0)) ∈ LN ∧ (b1, Obj.cells L12 38 (0, 0)) ∈ LN ∧ (b2, Obj.cells S2 40 (0, 0)) ∈ LN ∧ St W wx (fun b => W.heap[b]?) LN)
 case first =>
  refine wp_region_once (o := _) 9 (by kernel_rfl) (by kernel_rfl) op9 (by kernel_rfl) (by kernel_rfl) H8.out
   (fun i v L => match i with | 0 => v = .agg GT | 1 => v = .agg E1 | 2 => v = .agg E2 | 3 => ∃ b, v = .slice (some ⟨b, 0, none⟩) 2 2 ∧ (b, Obj.cells L12 38 (0, 0)) ∈ L | 4 => v = .agg SA | 5 => v = .agg SB | 6 => ∃ b, v = .slice (some ⟨b, 0, none⟩) 2 2 ∧ (b, Obj.cells S2 40 (0, 0)) ∈ L | 7 => ∃ b1 b2, v = .agg (HF1 b1 b2) ∧ (b1, Obj.cells L12 38 (0, 0)) ∈ L ∧ (b2, Obj.cells S2 40 (0, 0)) ∈ L | 8 => ∃ b, v = .pointer (some ⟨b, 0, none⟩) ∧ (b, Obj.cells Tryd.zeroCells45 45 (0, 0)) ∈ L ∧ ∀ p ∈ ((g6, Obj.cells SB 40 (0, 0)) :: (g5, Obj.cells SA 40 (0, 0)) :: (g4, Obj.cells E2 38 (0, 0)) :: (g3, Obj.cells E1 38 (0, 0)) :: (gr, Obj.cells QR 36 (0, 0)) :: (gq, Obj.cells QC 24 (0, 0)) :: []), p.1 ≠ b | _ => True)
   (fun i v L L' h hs => ?_) ?_ ?_
  ·match i, h with
   | 0, h => exact h
   | 1, h => exact h
   | 2, h => exact h
   | 3, ⟨b, e, m⟩ => exact ⟨b, e, hs _ m⟩
   | 4, h => exact h
   | 5, h => exact h
   | 6, ⟨b, e, m⟩ => exact ⟨b, e, hs _ m⟩
   | 7, ⟨b1, b2, e, m1, m2⟩ => exact ⟨b1, b2, e, hs _ m1, hs _ m2⟩
   | 8, ⟨b, e, m, hn⟩ => exact ⟨b, e, hs _ m, hn⟩
   | _ + 9, _ => trivial
  ·refine allO_spec ?_
   simp only [List.take_succ_cons, List.take_zero, AllO]
   refine ⟨?_, ?_, ?_, ?_, ?_, ?_, ?_, ?_, ?_, trivial⟩
   ·intro lst vs L w hafter hR hst hX K hK
    go_simp
    go_at_call 8
    (with_reducible refine (KG.out _ _ hst).mono ?_)
    rintro e wx ⟨rfl, hs⟩
    dsimp only
    exact hK _ _ L rfl (fun _ h => h) hs
   ·intro lst vs L w hafter hR hst hX K hK
    refine wp_once_ld 38 (.tmp 3) rfl g3 0 ((ev_out (by kernel_rfl)).trans (by rfl)) E1 _ (FSx.out _ _ hst (hX _ HM.out.1) (hX _ HM.out.2.1) (hX _ HM.out.2.2.1) (hX _ HM.out.2.2.2)).1 Tryd.underlying38 rfl I_1.out ?_
    exact hK _ _ L rfl (fun _ h => h) hst
   ·intro lst vs L w hafter hR hst hX K hK
    refine wp_once_ld 38 (.tmp 4) rfl g4 0 ((ev_out (by kernel_rfl)).trans (by rfl)) E2 _ (FSx.out _ _ hst (hX _ HM.out.1) (hX _ HM.out.2.1) (hX _ HM.out.2.2.1) (hX _ HM.out.2.2.2)).2.1 Tryd.underlying38 rfl I_2.out ?_
    exact hK _ _ L rfl (fun _ h => h) hst
   ·intro lst vs L w hafter hR hst hX K hK
    refine wp_once_bs 41 2 _ rfl _ (by simp only [List.map_toArray, List.map_cons, List.map_nil]; rw [ev_in 1 (by kernel_rfl) (by kernel_rfl) (after_of hafter 1 (by kernel_rfl)) (by simp), ev_in 2 (by kernel_rfl) (by kernel_rfl) (after_of hafter 2 (by kernel_rfl)) (by simp), show vs 1 = _ from hR 1 (after_of hafter 1 (by kernel_rfl)), show vs 2 = _ from hR 2 (after_of hafter 2 (by kernel_rfl))]) RB1.out hst ?_
    intro b w' hs
    exact hK _ _ _ ⟨b, rfl, List.mem_cons_self ..⟩ (fun p hp => List.mem_cons_of_mem _ hp) hs
   ·intro lst vs L w hafter hR hst hX K hK
    refine wp_once_ld 40 (.tmp 5) rfl g5 0 ((ev_out (by kernel_rfl)).trans (by rfl)) SA _ (FSx.out _ _ hst (hX _ HM.out.1) (hX _ HM.out.2.1) (hX _ HM.out.2.2.1) (hX _ HM.out.2.2.2)).2.2.1 Tryd.underlying40 rfl I_A.out ?_
    exact hK _ _ L rfl (fun _ h => h) hst
   ·intro lst vs L w hafter hR hst hX K hK
    refine wp_once_ld 40 (.tmp 6) rfl g6 0 ((ev_out (by kernel_rfl)).trans (by rfl)) SB _ (FSx.out _ _ hst (hX _ HM.out.1) (hX _ HM.out.2.1) (hX _ HM.out.2.2.1) (hX _ HM.out.2.2.2)).2.2.2 Tryd.underlying40 rfl I_S.out ?_
    exact hK _ _ L rfl (fun _ h => h) hst
   ·intro lst vs L w hafter hR hst hX K hK
    refine wp_once_bs 42 2 _ rfl _ (by simp only [List.map_toArray, List.map_cons, List.map_nil]; rw [ev_in 4 (by kernel_rfl) (by kernel_rfl) (after_of hafter 4 (by kernel_rfl)) (by simp), ev_in 5 (by kernel_rfl) (by kernel_rfl) (after_of hafter 5 (by kernel_rfl)) (by simp), show vs 4 = _ from hR 4 (after_of hafter 4 (by kernel_rfl)), show vs 5 = _ from hR 5 (after_of hafter 5 (by kernel_rfl))]) RS2.out hst ?_
    intro b w' hs
    exact hK _ _ _ ⟨b, rfl, List.mem_cons_self ..⟩ (fun p hp => List.mem_cons_of_mem _ hp) hs
   ·intro lst vs L w hafter hR hst hX K hK
    obtain ⟨b1, e1, m1⟩ := hR 3 (after_of hafter 3 (by kernel_rfl))
    obtain ⟨b2, e2, m2⟩ := hR 6 (after_of hafter 6 (by kernel_rfl))
    refine wp_once_bu 45 _ rfl _ (by simp only [List.map_toArray, List.map_cons, List.map_nil]; rw [ev_in 0 (by kernel_rfl) (by kernel_rfl) (after_of hafter 0 (by kernel_rfl)) (by simp), ev_in 3 (by kernel_rfl) (by kernel_rfl) (after_of hafter 3 (by kernel_rfl)) (by simp), ev_in 6 (by kernel_rfl) (by kernel_rfl) (after_of hafter 6 (by kernel_rfl)) (by simp), show vs 0 = _ from hR 0 (after_of hafter 0 (by kernel_rfl)), e1, e2]) (BU1.out b1 b2) ?_
    exact hK _ _ L ⟨b1, b2, rfl, m1, m2⟩ (fun _ h => h) hst
   ·intro lst vs L w hafter hR hst hX K hK
    refine wp_once_al 45 rfl HAL.out hst ?_
    intro b w' hb hs
    exact hK _ _ _ ⟨b, rfl, List.mem_cons_self .., fun p hp => hb p (hX p hp)⟩ (fun p hp => List.mem_cons_of_mem _ hp) hs
  ·intro vs L w hR hst hX
   obtain ⟨b1, b2, e8, m1, m2⟩ := hR 7 (by omega)
   obtain ⟨b7, e7, m7, hn7⟩ := hR 8 (by omega)
   obtain ⟨c3, f3, -⟩ := hR 3 (by omega)
   obtain ⟨c6, f6, -⟩ := hR 6 (by omega)
   simp only [List.take_succ_cons, List.take_zero, putsF, if_true, Act.put, pu1, pu2, pu3, show vs 0 = _ from hR 0 (by omega), show vs 1 = _ from hR 1 (by omega), show vs 2 = _ from hR 2 (by omega), f3, show vs 4 = _ from hR 4 (by omega), show vs 5 = _ from hR 5 (by omega), f6, e8, e7]
   obtain ⟨La, Lb, hL⟩ := List.mem_iff_append.1 m7
   have hp : ∀ p, p ∈ L → p.1 ≠ b7 ∨ (∃ c T f, p.2 = Obj.cells c T f ∧ T ≠ 45) → p ∈ La ++ Lb := fun p hp hn => by
    rw [hL] at hp
    rcases List.mem_append.1 hp with h | h
    ·exact List.mem_append_left _ h
    ·rcases List.mem_cons.1 h with h | h
     ·subst h
      rcases hn with h | ⟨c, T, f, h, ht⟩
      ·exact absurd rfl h
      ·injection h with _ h _
       exact absurd h.symm ht
     ·exact List.mem_append_right _ h
   have hz := hst.perm (L' := (b7, .cells Tryd.zeroCells45 45 (0, 0)) :: (La ++ Lb)) (by rw [hL]; exact List.perm_middle)
   have HZZ := Lib.hid hz
   have HP : Hid _ := Lib.hid hp
   have HXX := Lib.hid hX
   clear hz hp hX hst hR hL
   go_wp2_with (with_reducible refine wpList_store_st rfl 45 (.tmp 7) (.tmp 36) rfl (g := b7) (off := 0) (HF1 b1 b2) rfl rfl HZZ.out (FI1.out _ b2) (IN1.out _ b2) (ON1.out _ b2) ?_; intro wf hf; refine Hid.out ?_)
   refine Lib.hid ?_
   rw [MA1.out] at hf
   have HFF := Lib.hid hf
   clear hf
   go_wp2_with fail
   go_meet
   exact ⟨b7, b1, b2, _, rfl, fun p hp => List.mem_cons_of_mem _ (HP.out p (HXX.out p hp) (.inl (hn7 p hp))), List.mem_cons_self .., List.mem_cons_of_mem _ (HP.out _ m1 (.inr ⟨_, _, _, rfl, by decide⟩)), List.mem_cons_of_mem _ (HP.out _ m2 (.inr ⟨_, _, _, rfl, by decide⟩)), HFF.out⟩
 case rest =>
 obtain ⟨h7, l7, p7, LN7, rfl, hsub, mh7, ml7, mp7, hx⟩ := hcut
 have H9 := Lib.hid hx
 have HM : Hid _ := Lib.hid (⟨hsub _ HM.out.1, hsub _ HM.out.2.1, hsub _ HM.out.2.2.1, hsub _ HM.out.2.2.2⟩ : (g3, Obj.cells E1 38 (0, 0)) ∈ LN7 ∧ (g4, Obj.cells E2 38 (0, 0)) ∈ LN7 ∧ (g5, Obj.cells SA 40 (0, 0)) ∈ LN7 ∧ (g6, Obj.cells SB 40 (0, 0)) ∈ LN7)
 have SUB7 := Lib.hid hsub
 clear hx hsub H8
 go_upto_region 10 with fail
 go_cut [8] (fun s7 wx => ∃ b7 b1 b2 LN, s7 = .pointer (some ⟨b7, 0, none⟩) ∧ (∀ p ∈ LN7, p ∈ LN) ∧ (b7, Obj.cells (HF2 b1 b2) 45 (0, 0)) ∈ LN ∧ (b1, Obj.cells L21 38 (0, 0)) ∈ LN ∧ (b2, Obj.cells S2 40 (0, 0)) ∈ LN ∧ St W wx (fun b => W.heap[b]?) LN)
 case first =>
  refine wp_region_once (o := _) 9 (by kernel_rfl) (by kernel_rfl) op9 (by kernel_rfl) (by kernel_rfl) H9.out
   (fun i v L => match i with | 0 => v = .agg GT | 1 => v = .agg E2 | 2 => v = .agg E1 | 3 => ∃ b, v = .slice (some ⟨b, 0, none⟩) 2 2 ∧ (b, Obj.cells L21 38 (0, 0)) ∈ L | 4 => v = .agg SA | 5 => v = .agg SB | 6 => ∃ b, v = .slice (some ⟨b, 0, none⟩) 2 2 ∧ (b, Obj.cells S2 40 (0, 0)) ∈ L | 7 => ∃ b1 b2, v = .agg (HF2 b1 b2) ∧ (b1, Obj.cells L21 38 (0, 0)) ∈ L ∧ (b2, Obj.cells S2 40 (0, 0)) ∈ L | 8 => ∃ b, v = .pointer (some ⟨b, 0, none⟩) ∧ (b, Obj.cells Tryd.zeroCells45 45 (0, 0)) ∈ L ∧ ∀ p ∈ LN7, p.1 ≠ b | _ => True)
   (fun i v L L' h hs => ?_) ?_ ?_
  ·match i, h with
   | 0, h => exact h
   | 1, h => exact h
   | 2, h => exact h
   | 3, ⟨b, e, m⟩ => exact ⟨b, e, hs _ m⟩
   | 4, h => exact h
   | 5, h => exact h
   | 6, ⟨b, e, m⟩ => exact ⟨b, e, hs _ m⟩
   | 7, ⟨b1, b2, e, m1, m2⟩ => exact ⟨b1, b2, e, hs _ m1, hs _ m2⟩
   | 8, ⟨b, e, m, hn⟩ => exact ⟨b, e, hs _ m, hn⟩
   | _ + 9, _ => trivial
  ·refine allO_spec ?_
   simp only [List.take_succ_cons, List.take_zero, AllO]
   refine ⟨?_, ?_, ?_, ?_, ?_, ?_, ?_, ?_, ?_, trivial⟩
   ·intro lst vs L w hafter hR hst hX K hK
    go_simp
    go_at_call 8
    (with_reducible refine (KG.out _ _ hst).mono ?_)
    rintro e wx ⟨rfl, hs⟩
    dsimp only
    exact hK _ _ L rfl (fun _ h => h) hs
   ·intro lst vs L w hafter hR hst hX K hK
    refine wp_once_ld 38 (.tmp 4) rfl g4 0 ((ev_out (by kernel_rfl)).trans (by rfl)) E2 _ (FSx.out _ _ hst (hX _ HM.out.1) (hX _ HM.out.2.1) (hX _ HM.out.2.2.1) (hX _ HM.out.2.2.2)).2.1 Tryd.underlying38 rfl I_2.out ?_
    exact hK _ _ L rfl (fun _ h => h) hst
   ·intro lst vs L w hafter hR hst hX K hK
    refine wp_once_ld 38 (.tmp 3) rfl g3 0 ((ev_out (by kernel_rfl)).trans (by rfl)) E1 _ (FSx.out _ _ hst (hX _ HM.out.1) (hX _ HM.out.2.1) (hX _ HM.out.2.2.1) (hX _ HM.out.2.2.2)).1 Tryd.underlying38 rfl I_1.out ?_
    exact hK _ _ L rfl (fun _ h => h) hst
   ·intro lst vs L w hafter hR hst hX K hK
    refine wp_once_bs 41 2 _ rfl _ (by simp only [List.map_toArray, List.map_cons, List.map_nil]; rw [ev_in 1 (by kernel_rfl) (by kernel_rfl) (after_of hafter 1 (by kernel_rfl)) (by simp), ev_in 2 (by kernel_rfl) (by kernel_rfl) (after_of hafter 2 (by kernel_rfl)) (by simp), show vs 1 = _ from hR 1 (after_of hafter 1 (by kernel_rfl)), show vs 2 = _ from hR 2 (after_of hafter 2 (by kernel_rfl))]) RB2.out hst ?_
    intro b w' hs
    exact hK _ _ _ ⟨b, rfl, List.mem_cons_self ..⟩ (fun p hp => List.mem_cons_of_mem _ hp) hs
   ·intro lst vs L w hafter hR hst hX K hK
    refine wp_once_ld 40 (.tmp 5) rfl g5 0 ((ev_out (by kernel_rfl)).trans (by rfl)) SA _ (FSx.out _ _ hst (hX _ HM.out.1) (hX _ HM.out.2.1) (hX _ HM.out.2.2.1) (hX _ HM.out.2.2.2)).2.2.1 Tryd.underlying40 rfl I_A.out ?_
    exact hK _ _ L rfl (fun _ h => h) hst
   ·intro lst vs L w hafter hR hst hX K hK
    refine wp_once_ld 40 (.tmp 6) rfl g6 0 ((ev_out (by kernel_rfl)).trans (by rfl)) SB _ (FSx.out _ _ hst (hX _ HM.out.1) (hX _ HM.out.2.1) (hX _ HM.out.2.2.1) (hX _ HM.out.2.2.2)).2.2.2 Tryd.underlying40 rfl I_S.out ?_
    exact hK _ _ L rfl (fun _ h => h) hst
   ·intro lst vs L w hafter hR hst hX K hK
    refine wp_once_bs 42 2 _ rfl _ (by simp only [List.map_toArray, List.map_cons, List.map_nil]; rw [ev_in 4 (by kernel_rfl) (by kernel_rfl) (after_of hafter 4 (by kernel_rfl)) (by simp), ev_in 5 (by kernel_rfl) (by kernel_rfl) (after_of hafter 5 (by kernel_rfl)) (by simp), show vs 4 = _ from hR 4 (after_of hafter 4 (by kernel_rfl)), show vs 5 = _ from hR 5 (after_of hafter 5 (by kernel_rfl))]) RS2.out hst ?_
    intro b w' hs
    exact hK _ _ _ ⟨b, rfl, List.mem_cons_self ..⟩ (fun p hp => List.mem_cons_of_mem _ hp) hs
   ·intro lst vs L w hafter hR hst hX K hK
    obtain ⟨b1, e1, m1⟩ := hR 3 (after_of hafter 3 (by kernel_rfl))
    obtain ⟨b2, e2, m2⟩ := hR 6 (after_of hafter 6 (by kernel_rfl))
    refine wp_once_bu 45 _ rfl _ (by simp only [List.map_toArray, List.map_cons, List.map_nil]; rw [ev_in 0 (by kernel_rfl) (by kernel_rfl) (after_of hafter 0 (by kernel_rfl)) (by simp), ev_in 3 (by kernel_rfl) (by kernel_rfl) (after_of hafter 3 (by kernel_rfl)) (by simp), ev_in 6 (by kernel_rfl) (by kernel_rfl) (after_of hafter 6 (by kernel_rfl)) (by simp), show vs 0 = _ from hR 0 (after_of hafter 0 (by kernel_rfl)), e1, e2]) (BU2.out b1 b2) ?_
    exact hK _ _ L ⟨b1, b2, rfl, m1, m2⟩ (fun _ h => h) hst
   ·intro lst vs L w hafter hR hst hX K hK
    refine wp_once_al 45 rfl HAL.out hst ?_
    intro b w' hb hs
    exact hK _ _ _ ⟨b, rfl, List.mem_cons_self .., fun p hp => hb p (hX p hp)⟩ (fun p hp => List.mem_cons_of_mem _ hp) hs
  ·intro vs L w hR hst hX
   obtain ⟨b1, b2, e8, m1, m2⟩ := hR 7 (by omega)
   obtain ⟨b7, e7, m7, hn7⟩ := hR 8 (by omega)
   obtain ⟨c3, f3, -⟩ := hR 3 (by omega)
   obtain ⟨c6, f6, -⟩ := hR 6 (by omega)
   simp only [List.take_succ_cons, List.take_zero, putsF, if_true, Act.put, pu1, pu2, pu3, show vs 0 = _ from hR 0 (by omega), show vs 1 = _ from hR 1 (by omega), show vs 2 = _ from hR 2 (by omega), f3, show vs 4 = _ from hR 4 (by omega), show vs 5 = _ from hR 5 (by omega), f6, e8, e7]
   obtain ⟨La, Lb, hL⟩ := List.mem_iff_append.1 m7
   have hp : ∀ p, p ∈ L → p.1 ≠ b7 ∨ (∃ c T f, p.2 = Obj.cells c T f ∧ T ≠ 45) → p ∈ La ++ Lb := fun p hp hn => by
    rw [hL] at hp
    rcases List.mem_append.1 hp with h | h
    ·exact List.mem_append_left _ h
    ·rcases List.mem_cons.1 h with h | h
     ·subst h
      rcases hn with h | ⟨c, T, f, h, ht⟩
      ·exact absurd rfl h
      ·injection h with _ h _
       exact absurd h.symm ht
     ·exact List.mem_append_right _ h
   have hz := hst.perm (L' := (b7, .cells Tryd.zeroCells45 45 (0, 0)) :: (La ++ Lb)) (by rw [hL]; exact List.perm_middle)
   have HZZ := Lib.hid hz
   have HP : Hid _ := Lib.hid hp
   have HXX := Lib.hid hX
   clear hz hp hX hst hR hL
   go_wp2_with (with_reducible refine wpList_store_st rfl 45 (.tmp 8) (.tmp 44) rfl (g := b7) (off := 0) (HF2 b1 b2) rfl rfl HZZ.out (FI2.out _ b2) (IN2.out _ b2) (ON2.out _ b2) ?_; intro wf hf; refine Hid.out ?_)
   refine Lib.hid ?_
   rw [MA2.out] at hf
   have HFF := Lib.hid hf
   clear hf
   go_wp2_with fail
   go_meet
   exact ⟨b7, b1, b2, _, rfl, fun p hp => List.mem_cons_of_mem _ (HP.out p (HXX.out p hp) (.inl (hn7 p hp))), List.mem_cons_self .., List.mem_cons_of_mem _ (HP.out _ m1 (.inr ⟨_, _, _, rfl, by decide⟩)), List.mem_cons_of_mem _ (HP.out _ m2 (.inr ⟨_, _, _, rfl, by decide⟩)), HFF.out⟩
 case rest =>
 obtain ⟨h8, l8, p8, LN8, rfl, hsub, mh8, ml8, mp8, hx⟩ := hcut
 have H10 := Lib.hid hx
 have HM : Hid _ := Lib.hid (⟨hsub _ HM.out.1, hsub _ HM.out.2.1, hsub _ HM.out.2.2.1, hsub _ HM.out.2.2.2⟩ : (g3, Obj.cells E1 38 (0, 0)) ∈ LN8 ∧ (g4, Obj.cells E2 38 (0, 0)) ∈ LN8 ∧ (g5, Obj.cells SA 40 (0, 0)) ∈ LN8 ∧ (g6, Obj.cells SB 40 (0, 0)) ∈ LN8)
 have SUB8 := Lib.hid hsub
 clear hx hsub H9
 go_upto_region 11 with fail
 go_cut [9] (fun s7 wx => ∃ b7 b1 b2 LN, s7 = .pointer (some ⟨b7, 0, none⟩) ∧ (∀ p ∈ LN8, p ∈ LN) ∧ (b7, Obj.cells (HF3 b1 b2) 45 (0, 0)) ∈ LN ∧ (b1, Obj.cells L1 38 (0, 0)) ∈ LN ∧ (b2, Obj.cells S2 40 (0, 0)) ∈ LN ∧ St W wx (fun b => W.heap[b]?) LN)
 case first =>
  refine wp_region_once (o := _) 8 (by kernel_rfl) (by kernel_rfl) op8 (by kernel_rfl) (by kernel_rfl) H10.out
   (fun i v L => match i with | 0 => v = .agg GT | 1 => v = .agg E1 | 2 => ∃ b, v = .slice (some ⟨b, 0, none⟩) 1 1 ∧ (b, Obj.cells L1 38 (0, 0)) ∈ L | 3 => v = .agg SA | 4 => v = .agg SB | 5 => ∃ b, v = .slice (some ⟨b, 0, none⟩) 2 2 ∧ (b, Obj.cells S2 40 (0, 0)) ∈ L | 6 => ∃ b1 b2, v = .agg (HF3 b1 b2) ∧ (b1, Obj.cells L1 38 (0, 0)) ∈ L ∧ (b2, Obj.cells S2 40 (0, 0)) ∈ L | 7 => ∃ b, v = .pointer (some ⟨b, 0, none⟩) ∧ (b, Obj.cells Tryd.zeroCells45 45 (0, 0)) ∈ L ∧ ∀ p ∈ LN8, p.1 ≠ b | _ => True)
   (fun i v L L' h hs => ?_) ?_ ?_
  ·match i, h with
   | 0, h => exact h
   | 1, h => exact h
   | 2, ⟨b, e, m⟩ => exact ⟨b, e, hs _ m⟩
   | 3, h => exact h
   | 4, h => exact h
   | 5, ⟨b, e, m⟩ => exact ⟨b, e, hs _ m⟩
   | 6, ⟨b1, b2, e, m1, m2⟩ => exact ⟨b1, b2, e, hs _ m1, hs _ m2⟩
   | 7, ⟨b, e, m, hn⟩ => exact ⟨b, e, hs _ m, hn⟩
   | _ + 8, _ => trivial
  ·refine allO_spec ?_
   simp only [List.take_succ_cons, List.take_zero, AllO]
   refine ⟨?_, ?_, ?_, ?_, ?_, ?_, ?_, ?_, trivial⟩
   ·intro lst vs L w hafter hR hst hX K hK
    go_simp
    go_at_call 8
    (with_reducible refine (KG.out _ _ hst).mono ?_)
    rintro e wx ⟨rfl, hs⟩
    dsimp only
    exact hK _ _ L rfl (fun _ h => h) hs
   ·intro lst vs L w hafter hR hst hX K hK
    refine wp_once_ld 38 (.tmp 3) rfl g3 0 ((ev_out (by kernel_rfl)).trans (by rfl)) E1 _ (FSx.out _ _ hst (hX _ HM.out.1) (hX _ HM.out.2.1) (hX _ HM.out.2.2.1) (hX _ HM.out.2.2.2)).1 Tryd.underlying38 rfl I_1.out ?_
    exact hK _ _ L rfl (fun _ h => h) hst
   ·intro lst vs L w hafter hR hst hX K hK
    refine wp_once_bs 41 1 _ rfl _ (by simp only [List.map_toArray, List.map_cons, List.map_nil]; rw [ev_in 1 (by kernel_rfl) (by kernel_rfl) (after_of hafter 1 (by kernel_rfl)) (by simp), show vs 1 = _ from hR 1 (after_of hafter 1 (by kernel_rfl))]) RB3.out hst ?_
    intro b w' hs
    exact hK _ _ _ ⟨b, rfl, List.mem_cons_self ..⟩ (fun p hp => List.mem_cons_of_mem _ hp) hs
   ·intro lst vs L w hafter hR hst hX K hK
    refine wp_once_ld 40 (.tmp 5) rfl g5 0 ((ev_out (by kernel_rfl)).trans (by rfl)) SA _ (FSx.out _ _ hst (hX _ HM.out.1) (hX _ HM.out.2.1) (hX _ HM.out.2.2.1) (hX _ HM.out.2.2.2)).2.2.1 Tryd.underlying40 rfl I_A.out ?_
    exact hK _ _ L rfl (fun _ h => h) hst
   ·intro lst vs L w hafter hR hst hX K hK
    refine wp_once_ld 40 (.tmp 6) rfl g6 0 ((ev_out (by kernel_rfl)).trans (by rfl)) SB _ (FSx.out _ _ hst (hX _ HM.out.1) (hX _ HM.out.2.1) (hX _ HM.out.2.2.1) (hX _ HM.out.2.2.2)).2.2.2 Tryd.underlying40 rfl I_S.out ?_
    exact hK _ _ L rfl (fun _ h => h) hst
   ·intro lst vs L w hafter hR hst hX K hK
    refine wp_once_bs 42 2 _ rfl _ (by simp only [List.map_toArray, List.map_cons, List.map_nil]; rw [ev_in 3 (by kernel_rfl) (by kernel_rfl) (after_of hafter 3 (by kernel_rfl)) (by simp), ev_in 4 (by kernel_rfl) (by kernel_rfl) (after_of hafter 4 (by kernel_rfl)) (by simp), show vs 3 = _ from hR 3 (after_of hafter 3 (by kernel_rfl)), show vs 4 = _ from hR 4 (after_of hafter 4 (by kernel_rfl))]) RS2.out hst ?_
    intro b w' hs
    exact hK _ _ _ ⟨b, rfl, List.mem_cons_self ..⟩ (fun p hp => List.mem_cons_of_mem _ hp) hs
   ·intro lst vs L w hafter hR hst hX K hK
    obtain ⟨b1, e1, m1⟩ := hR 2 (after_of hafter 2 (by kernel_rfl))
    obtain ⟨b2, e2, m2⟩ := hR 5 (after_of hafter 5 (by kernel_rfl))
    refine wp_once_bu 45 _ rfl _ (by simp only [List.map_toArray, List.map_cons, List.map_nil]; rw [ev_in 0 (by kernel_rfl) (by kernel_rfl) (after_of hafter 0 (by kernel_rfl)) (by simp), ev_in 2 (by kernel_rfl) (by kernel_rfl) (after_of hafter 2 (by kernel_rfl)) (by simp), ev_in 5 (by kernel_rfl) (by kernel_rfl) (after_of hafter 5 (by kernel_rfl)) (by simp), show vs 0 = _ from hR 0 (after_of hafter 0 (by kernel_rfl)), e1, e2]) (BU3.out b1 b2) ?_
    exact hK _ _ L ⟨b1, b2, rfl, m1, m2⟩ (fun _ h => h) hst
   ·intro lst vs L w hafter hR hst hX K hK
    refine wp_once_al 45 rfl HAL.out hst ?_
    intro b w' hb hs
    exact hK _ _ _ ⟨b, rfl, List.mem_cons_self .., fun p hp => hb p (hX p hp)⟩ (fun p hp => List.mem_cons_of_mem _ hp) hs
  ·intro vs L w hR hst hX
   obtain ⟨b1, b2, e8, m1, m2⟩ := hR 6 (by omega)
   obtain ⟨b7, e7, m7, hn7⟩ := hR 7 (by omega)
   obtain ⟨c2, f2, -⟩ := hR 2 (by omega)
   obtain ⟨c5, f5, -⟩ := hR 5 (by omega)
   simp only [List.take_succ_cons, List.take_zero, putsF, if_true, Act.put, pu1, pu2, pu3, show vs 0 = _ from hR 0 (by omega), show vs 1 = _ from hR 1 (by omega), f2, show vs 3 = _ from hR 3 (by omega), show vs 4 = _ from hR 4 (by omega), f5, e8, e7]
   obtain ⟨La, Lb, hL⟩ := List.mem_iff_append.1 m7
   have hp : ∀ p, p ∈ L → p.1 ≠ b7 ∨ (∃ c T f, p.2 = Obj.cells c T f ∧ T ≠ 45) → p ∈ La ++ Lb := fun p hp hn => by
    rw [hL] at hp
    rcases List.mem_append.1 hp with h | h
    ·exact List.mem_append_left _ h
    ·rcases List.mem_cons.1 h with h | h
     ·subst h
      rcases hn with h | ⟨c, T, f, h, ht⟩
      ·exact absurd rfl h
      ·injection h with _ h _
       exact absurd h.symm ht
     ·exact List.mem_append_right _ h
   have hz := hst.perm (L' := (b7, .cells Tryd.zeroCells45 45 (0, 0)) :: (La ++ Lb)) (by rw [hL]; exact List.perm_middle)
   have HZZ := Lib.hid hz
   have HP : Hid _ := Lib.hid hp
   have HXX := Lib.hid hX
   clear hz hp hX hst hR hL
   go_wp2_with (with_reducible refine wpList_store_st rfl 45 (.tmp 9) (.tmp 51) rfl (g := b7) (off := 0) (HF3 b1 b2) rfl rfl HZZ.out (FI3.out _ b2) (IN3.out _ b2) (ON3.out _ b2) ?_; intro wf hf; refine Hid.out ?_)
   refine Lib.hid ?_
   rw [MA3.out] at hf
   have HFF := Lib.hid hf
   clear hf
   go_wp2_with fail
   go_meet
   exact ⟨b7, b1, b2, _, rfl, fun p hp => List.mem_cons_of_mem _ (HP.out p (HXX.out p hp) (.inl (hn7 p hp))), List.mem_cons_self .., List.mem_cons_of_mem _ (HP.out _ m1 (.inr ⟨_, _, _, rfl, by decide⟩)), List.mem_cons_of_mem _ (HP.out _ m2 (.inr ⟨_, _, _, rfl, by decide⟩)), HFF.out⟩
 case rest =>
 obtain ⟨h9, l9, p9, LN9, rfl, hsub, mh9, ml9, mp9, hx⟩ := hcut
 have H11 := Lib.hid hx
 have HM : Hid _ := Lib.hid (⟨hsub _ HM.out.1, hsub _ HM.out.2.1, hsub _ HM.out.2.2.1, hsub _ HM.out.2.2.2⟩ : (g3, Obj.cells E1 38 (0, 0)) ∈ LN9 ∧ (g4, Obj.cells E2 38 (0, 0)) ∈ LN9 ∧ (g5, Obj.cells SA 40 (0, 0)) ∈ LN9 ∧ (g6, Obj.cells SB 40 (0, 0)) ∈ LN9)
 have SUB9 := Lib.hid hsub
 clear hx hsub H10
 obtain ⟨r1, r2, rA, rS⟩ := FSx.out _ _ H11.out HM.out.1 HM.out.2.1 HM.out.2.2.1 HM.out.2.2.2
 have Q1 := Lib.hid r1; have Q2 := Lib.hid r2
 clear r1 r2 rA rS
 go_wp2_with (first
  | (with_reducible refine wpList_build_go rfl 32 _ rfl _ ?_ (BZ.out _) ?_; · go_simp)
  | (with_reducible refine wpList_load_midg 53 rfl (by kernel_rfl) 38 (.tmp 3) rfl g3 0 rfl E1 _ Q1.out Tryd.underlying38 rfl I_1.out ?_)
  | (with_reducible refine wpList_load_midg 54 rfl (by kernel_rfl) 38 (.tmp 4) rfl g4 0 rfl E2 _ Q2.out Tryd.underlying38 rfl I_2.out ?_)
  | (refine wpList_once_bs rfl 41 2 _ rfl _ (by kernel_rfl) RB1.out H11.out ?_; intro b1 wb hb; refine Hid.out ?_))
 refine Lib.hid ?_
 obtain ⟨r1, r2, rA, rS⟩ := FSx.out _ _ hb (List.mem_cons_of_mem _ HM.out.1) (List.mem_cons_of_mem _ HM.out.2.1) (List.mem_cons_of_mem _ HM.out.2.2.1) (List.mem_cons_of_mem _ HM.out.2.2.2)
 clear Q1 Q2
 have Q1 := Lib.hid rA; have Q2 := Lib.hid rS; have HB := Lib.hid hb
 clear r1 r2 rA rS hb H11
 go_wp2_with (first
  | (with_reducible refine wpList_load_midg 56 rfl (by kernel_rfl) 40 (.tmp 5) rfl g5 0 rfl SA _ Q1.out Tryd.underlying40 rfl I_A.out ?_)
  | (with_reducible refine wpList_load_midg 57 rfl (by kernel_rfl) 40 (.tmp 6) rfl g6 0 rfl SB _ Q2.out Tryd.underlying40 rfl I_S.out ?_)
  | (refine wpList_once_bs rfl 42 2 _ rfl _ (by kernel_rfl) RS2.out HB.out ?_; intro b2 wc hc; refine Hid.out ?_))
 refine Lib.hid ?_
 have HC := Lib.hid (hc.alloc (.cells Tryd.zeroCells45 45))
 clear hc HB Q1 Q2
 go_wp2_with (first
  | (with_reducible refine wpList_build_go rfl 45 _ rfl _ ?_ (BU4.out b1 b2 _) ?_; · go_simp)
  | (with_reducible refine wpList_store_st rfl 45 (.tmp 10) (.tmp 59) rfl (g := wc.heap.size) (off := 0) (HF4 b1 b2) rfl rfl HC.out (FI4.out _ _) (IN4.out _ _) (ON4.out _ _) ?_; intro wd hd; refine Hid.out ?_))
 refine Lib.hid ?_
 rw [MA4.out] at hd
 obtain ⟨b10, hb10⟩ : ∃ y, wc.heap.size = y := ⟨_, rfl⟩
 rw [hb10] at hd ⊢
 obtain ⟨LNZ, hLNZ⟩ : ∃ y, (b10, .cells (HF4 b1 b2) 45 (0, 0)) :: (b2, .cells S2 40 (0, 0)) :: (b1, .cells L12 38 (0, 0)) :: LN9 = y := ⟨_, rfl⟩
 rw [hLNZ] at hd
 have H12 := Lib.hid hd
 have SUBZ : Hid (∀ p ∈ LN9, p ∈ LNZ) := Lib.hid fun p hp => by rw [← hLNZ]; simp [hp]
 have mhZ : (b10, Obj.cells (HF4 b1 b2) 45 (0, 0)) ∈ LNZ := by rw [← hLNZ]; simp
 have mlZ : (b1, Obj.cells L12 38 (0, 0)) ∈ LNZ := by rw [← hLNZ]; simp
 have mpZ : (b2, Obj.cells S2 40 (0, 0)) ∈ LNZ := by rw [← hLNZ]; simp
 have HM : Hid _ := Lib.hid (⟨SUBZ.out _ HM.out.1, SUBZ.out _ HM.out.2.1, SUBZ.out _ HM.out.2.2.1, SUBZ.out _ HM.out.2.2.2⟩ : (g3, Obj.cells E1 38 (0, 0)) ∈ LNZ ∧ (g4, Obj.cells E2 38 (0, 0)) ∈ LNZ ∧ (g5, Obj.cells SA 40 (0, 0)) ∈ LNZ ∧ (g6, Obj.cells SB 40 (0, 0)) ∈ LNZ)
 clear hd HC hLNZ hb10
 go_upto_region 13 with fail
 go_cut [11] (fun s7 wx => ∃ b7 b2 LN, s7 = .pointer (some ⟨b7, 0, none⟩) ∧ (∀ p ∈ LNZ, p ∈ LN) ∧ (b7, Obj.cells (HF5 0 b2) 45 (0, 0)) ∈ LN ∧ (b2, Obj.cells S6 40 (0, 0)) ∈ LN ∧ St W wx (fun b => W.heap[b]?) LN)
 case first =>
  refine wp_region_once (o := _) 10 (by kernel_rfl) (by kernel_rfl) (oq op0) (by kernel_rfl) (by kernel_rfl) H12.out
   (fun i v L => match i with | 0 => v = .agg GT | 1 => v = .agg SA | 2 => v = .agg SA | 3 => v = .agg SA | 4 => v = .agg SA | 5 => v = .agg SA | 6 => v = .agg SA | 7 => ∃ b, v = .slice (some ⟨b, 0, none⟩) 6 6 ∧ (b, Obj.cells S6 40 (0, 0)) ∈ L | 8 => ∃ b2, v = .agg (HF5 0 b2) ∧ (b2, Obj.cells S6 40 (0, 0)) ∈ L | 9 => ∃ b, v = .pointer (some ⟨b, 0, none⟩) ∧ (b, Obj.cells Tryd.zeroCells45 45 (0, 0)) ∈ L ∧ ∀ p ∈ LNZ, p.1 ≠ b | _ => True)
   (fun i v L L' h hs => ?_) ?_ ?_
  ·match i, h with
   | 0, h => exact h
   | 1, h => exact h
   | 2, h => exact h
   | 3, h => exact h
   | 4, h => exact h
   | 5, h => exact h
   | 6, h => exact h
   | 7, ⟨b, e, m⟩ => exact ⟨b, e, hs _ m⟩
   | 8, ⟨b2, e, m2⟩ => exact ⟨b2, e, hs _ m2⟩
   | 9, ⟨b, e, m, hn⟩ => exact ⟨b, e, hs _ m, hn⟩
   | _ + 10, _ => trivial
  ·refine allO_spec ?_
   simp only [List.take_succ_cons, List.take_zero, AllO]
   refine ⟨?_, ?_, ?_, ?_, ?_, ?_, ?_, ?_, ?_, ?_, trivial⟩
   ·intro lst vs L w hafter hR hst hX K hK
    go_simp
    go_at_call 8
    (with_reducible refine (KG.out _ _ hst).mono ?_)
    rintro e wx ⟨rfl, hs⟩
    dsimp only
    exact hK _ _ L rfl (fun _ h => h) hs
   ·intro lst vs L w hafter hR hst hX K hK
    refine wp_once_ld 40 (.tmp 5) rfl g5 0 ((ev_out (by kernel_rfl)).trans (by rfl)) SA _ (FSx.out _ _ hst (hX _ HM.out.1) (hX _ HM.out.2.1) (hX _ HM.out.2.2.1) (hX _ HM.out.2.2.2)).2.2.1 Tryd.underlying40 rfl I_A.out ?_
    exact hK _ _ L rfl (fun _ h => h) hst
   ·intro lst vs L w hafter hR hst hX K hK
    refine wp_once_ld 40 (.tmp 5) rfl g5 0 ((ev_out (by kernel_rfl)).trans (by rfl)) SA _ (FSx.out _ _ hst (hX _ HM.out.1) (hX _ HM.out.2.1) (hX _ HM.out.2.2.1) (hX _ HM.out.2.2.2)).2.2.1 Tryd.underlying40 rfl I_A.out ?_
    exact hK _ _ L rfl (fun _ h => h) hst
   ·intro lst vs L w hafter hR hst hX K hK
    refine wp_once_ld 40 (.tmp 5) rfl g5 0 ((ev_out (by kernel_rfl)).trans (by rfl)) SA _ (FSx.out _ _ hst (hX _ HM.out.1) (hX _ HM.out.2.1) (hX _ HM.out.2.2.1) (hX _ HM.out.2.2.2)).2.2.1 Tryd.underlying40 rfl I_A.out ?_
    exact hK _ _ L rfl (fun _ h => h) hst
   ·intro lst vs L w hafter hR hst hX K hK
    refine wp_once_ld 40 (.tmp 5) rfl g5 0 ((ev_out (by kernel_rfl)).trans (by rfl)) SA _ (FSx.out _ _ hst (hX _ HM.out.1) (hX _ HM.out.2.1) (hX _ HM.out.2.2.1) (hX _ HM.out.2.2.2)).2.2.1 Tryd.underlying40 rfl I_A.out ?_
    exact hK _ _ L rfl (fun _ h => h) hst
   ·intro lst vs L w hafter hR hst hX K hK
    refine wp_once_ld 40 (.tmp 5) rfl g5 0 ((ev_out (by kernel_rfl)).trans (by rfl)) SA _ (FSx.out _ _ hst (hX _ HM.out.1) (hX _ HM.out.2.1) (hX _ HM.out.2.2.1) (hX _ HM.out.2.2.2)).2.2.1 Tryd.underlying40 rfl I_A.out ?_
    exact hK _ _ L rfl (fun _ h => h) hst
   ·intro lst vs L w hafter hR hst hX K hK
    refine wp_once_ld 40 (.tmp 5) rfl g5 0 ((ev_out (by kernel_rfl)).trans (by rfl)) SA _ (FSx.out _ _ hst (hX _ HM.out.1) (hX _ HM.out.2.1) (hX _ HM.out.2.2.1) (hX _ HM.out.2.2.2)).2.2.1 Tryd.underlying40 rfl I_A.out ?_
    exact hK _ _ L rfl (fun _ h => h) hst
   ·intro lst vs L w hafter hR hst hX K hK
    refine wp_once_bs 42 6 _ rfl _ (by simp only [List.map_toArray, List.map_cons, List.map_nil]; rw [ev_in 1 (by kernel_rfl) (by kernel_rfl) (after_of hafter 1 (by kernel_rfl)) (by simp), ev_in 2 (by kernel_rfl) (by kernel_rfl) (after_of hafter 2 (by kernel_rfl)) (by simp), ev_in 3 (by kernel_rfl) (by kernel_rfl) (after_of hafter 3 (by kernel_rfl)) (by simp), ev_in 4 (by kernel_rfl) (by kernel_rfl) (after_of hafter 4 (by kernel_rfl)) (by simp), ev_in 5 (by kernel_rfl) (by kernel_rfl) (after_of hafter 5 (by kernel_rfl)) (by simp), ev_in 6 (by kernel_rfl) (by kernel_rfl) (after_of hafter 6 (by kernel_rfl)) (by simp), show vs 1 = _ from hR 1 (after_of hafter 1 (by kernel_rfl)), show vs 2 = _ from hR 2 (after_of hafter 2 (by kernel_rfl)), show vs 3 = _ from hR 3 (after_of hafter 3 (by kernel_rfl)), show vs 4 = _ from hR 4 (after_of hafter 4 (by kernel_rfl)), show vs 5 = _ from hR 5 (after_of hafter 5 (by kernel_rfl)), show vs 6 = _ from hR 6 (after_of hafter 6 (by kernel_rfl))]) RS6.out hst ?_
    intro b w' hs
    exact hK _ _ _ ⟨b, rfl, List.mem_cons_self ..⟩ (fun p hp => List.mem_cons_of_mem _ hp) hs
   ·intro lst vs L w hafter hR hst hX K hK
    obtain ⟨b2, e2, m2⟩ := hR 7 (after_of hafter 7 (by kernel_rfl))
    refine wp_once_bu 45 _ rfl _ (by simp only [List.map_toArray, List.map_cons, List.map_nil]; rw [ev_in 0 (by kernel_rfl) (by kernel_rfl) (after_of hafter 0 (by kernel_rfl)) (by simp), ev_in 7 (by kernel_rfl) (by kernel_rfl) (after_of hafter 7 (by kernel_rfl)) (by simp), show vs 0 = _ from hR 0 (after_of hafter 0 (by kernel_rfl)), e2]) (BU5.out 0 b2) ?_
    exact hK _ _ L ⟨b2, rfl, m2⟩ (fun _ h => h) hst
   ·intro lst vs L w hafter hR hst hX K hK
    refine wp_once_al 45 rfl HAL.out hst ?_
    intro b w' hb hs
    exact hK _ _ _ ⟨b, rfl, List.mem_cons_self .., fun p hp => hb p (hX p hp)⟩ (fun p hp => List.mem_cons_of_mem _ hp) hs
  ·intro vs L w hR hst hX
   obtain ⟨b2, e8, m2⟩ := hR 8 (by omega)
   obtain ⟨b7, e7, m7, hn7⟩ := hR 9 (by omega)
   obtain ⟨c7, f7, -⟩ := hR 7 (by omega)
   simp only [List.take_succ_cons, List.take_zero, putsF, if_true, Act.put, pu1, pu2, pu3, show vs 0 = _ from hR 0 (by omega), show vs 1 = _ from hR 1 (by omega), show vs 2 = _ from hR 2 (by omega), show vs 3 = _ from hR 3 (by omega), show vs 4 = _ from hR 4 (by omega), show vs 5 = _ from hR 5 (by omega), show vs 6 = _ from hR 6 (by omega), f7, e8, e7]
   obtain ⟨La, Lb, hL⟩ := List.mem_iff_append.1 m7
   have hp : ∀ p, p ∈ L → p.1 ≠ b7 ∨ (∃ c T f, p.2 = Obj.cells c T f ∧ T ≠ 45) → p ∈ La ++ Lb := fun p hp hn => by
    rw [hL] at hp
    rcases List.mem_append.1 hp with h | h
    ·exact List.mem_append_left _ h
    ·rcases List.mem_cons.1 h with h | h
     ·subst h
      rcases hn with h | ⟨c, T, f, h, ht⟩
      ·exact absurd rfl h
      ·injection h with _ h _
       exact absurd h.symm ht
     ·exact List.mem_append_right _ h
   have hz := hst.perm (L' := (b7, .cells Tryd.zeroCells45 45 (0, 0)) :: (La ++ Lb)) (by rw [hL]; exact List.perm_middle)
   have HZZ := Lib.hid hz
   have HP : Hid _ := Lib.hid hp
   have HXX := Lib.hid hX
   clear hz hp hX hst hR hL
   go_wp2_with (with_reducible refine wpList_store_st rfl 45 (.tmp 11) (.tmp 68) rfl (g := b7) (off := 0) (HF5 0 b2) rfl rfl HZZ.out (FI5.out _ b2) (IN5.out _ b2) (ON5.out _ b2) ?_; intro wf hf; refine Hid.out ?_)
   refine Lib.hid ?_
   rw [MA5.out] at hf
   have HFF := Lib.hid hf
   clear hf
   go_wp2_with fail
   go_meet
   exact ⟨b7, b2, _, rfl, fun p hp => List.mem_cons_of_mem _ (HP.out p (HXX.out p hp) (.inl (hn7 p hp))), List.mem_cons_self .., List.mem_cons_of_mem _ (HP.out _ m2 (.inr ⟨_, _, _, rfl, by decide⟩)), HFF.out⟩
 case rest =>
 obtain ⟨h11, p11, LN11, rfl, hsub, mh11, mp11, hx⟩ := hcut
 have H13 := Lib.hid hx
 have HM : Hid _ := Lib.hid (⟨hsub _ HM.out.1, hsub _ HM.out.2.1, hsub _ HM.out.2.2.1, hsub _ HM.out.2.2.2⟩ : (g3, Obj.cells E1 38 (0, 0)) ∈ LN11 ∧ (g4, Obj.cells E2 38 (0, 0)) ∈ LN11 ∧ (g5, Obj.cells SA 40 (0, 0)) ∈ LN11 ∧ (g6, Obj.cells SB 40 (0, 0)) ∈ LN11)
 have SUB11 := Lib.hid hsub
 clear hx hsub H12
 have SUB9' : Hid (∀ p ∈ LN9, p ∈ LN11) := Lib.hid fun p hp => SUB11.out p (SUBZ.out p hp)
 have SUB8' : Hid (∀ p ∈ LN8, p ∈ LN11) := Lib.hid fun p hp => SUB9'.out p (SUB9.out p hp)
 have SUB7' : Hid (∀ p ∈ LN7, p ∈ LN11) := Lib.hid fun p hp => SUB8'.out p (SUB8.out p hp)
 have MH7 := Lib.hid (SUB7'.out _ mh7); have ML7 := Lib.hid (SUB7'.out _ ml7); have MP7 := Lib.hid (SUB7'.out _ mp7)
 have MH8 := Lib.hid (SUB8'.out _ mh8); have ML8 := Lib.hid (SUB8'.out _ ml8); have MP8 := Lib.hid (SUB8'.out _ mp8)
 have MH9 := Lib.hid (SUB9'.out _ mh9); have ML9 := Lib.hid (SUB9'.out _ ml9); have MP9 := Lib.hid (SUB9'.out _ mp9)
 have MHZ := Lib.hid (SUB11.out _ mhZ); have MLZ := Lib.hid (SUB11.out _ mlZ); have MPZ := Lib.hid (SUB11.out _ mpZ)
 have MH11 := Lib.hid mh11; have MP11 := Lib.hid mp11
 clear mh7 ml7 mp7 mh8 ml8 mp8 mh9 ml9 mp9 mhZ mlZ mpZ mh11 mp11
 have rgh : ∀ (b : Nat) (Y : Array Value) (v : World), (b, Obj.cells Y 45 (0, 0)) ∈ LN11 → St W v (fun b => W.heap[b]?) LN11 → v.rangeAt b 0 Y.toList := fun b Y v hm hv i u hi => by rw [Nat.zero_add, hv.cell hm i]; simpa using hi
 have RGH := Lib.hid rgh
 clear rgh
 have RH := Lib.hid (RGH.out _ _ _ MH7.out H13.out)
 go_wp2_with (with_reducible refine wpList_load_midg 70 rfl (by kernel_rfl) 45 (.tmp 7) rfl h7 0 rfl (HF1 l7 p7) _ RH.out Tryd.underlying45 rfl (IN1.out _ _) ?_)
 refine (KC1.out l7 p7 _ _ H13.out ML7.out MP7.out).mono ?_
 rintro e w14 ⟨rfl, h14x⟩
 have H14 := Lib.hid h14x
 clear RH h14x H13
 have RH := Lib.hid (RGH.out _ _ _ MH7.out H14.out)
 go_wp2_with (with_reducible refine wpList_load_midg 75 rfl (by kernel_rfl) 45 (.tmp 7) rfl h7 0 rfl (HF1 l7 p7) _ RH.out Tryd.underlying45 rfl (IN1.out _ _) ?_)
 refine (KF1.out l7 p7 _ _ H14.out ML7.out MP7.out).mono ?_
 rintro e w15 ⟨rfl, h15x⟩
 have H15 := Lib.hid h15x
 clear RH h15x H14
 have RH := Lib.hid (RGH.out _ _ _ MH8.out H15.out)
 go_wp2_with (with_reducible refine wpList_load_midg 80 rfl (by kernel_rfl) 45 (.tmp 8) rfl h8 0 rfl (HF2 l8 p8) _ RH.out Tryd.underlying45 rfl (IN2.out _ _) ?_)
 refine (KC2.out l8 p8 _ _ H15.out ML8.out MP8.out).mono ?_
 rintro e w16 ⟨rfl, h16x⟩
 have H16 := Lib.hid h16x
 clear RH h16x H15
 have RH := Lib.hid (RGH.out _ _ _ MH8.out H16.out)
 go_wp2_with (with_reducible refine wpList_load_midg 85 rfl (by kernel_rfl) 45 (.tmp 8) rfl h8 0 rfl (HF2 l8 p8) _ RH.out Tryd.underlying45 rfl (IN2.out _ _) ?_)
 refine (KF2.out l8 p8 _ _ H16.out ML8.out MP8.out).mono ?_
 rintro e w17 ⟨rfl, h17x⟩
 have H17 := Lib.hid h17x
 clear RH h17x H16
 have RH := Lib.hid (RGH.out _ _ _ MH9.out H17.out)
 go_wp2_with (with_reducible refine wpList_load_midg 90 rfl (by kernel_rfl) 45 (.tmp 9) rfl h9 0 rfl (HF3 l9 p9) _ RH.out Tryd.underlying45 rfl (IN3.out _ _) ?_)
 refine (KC3.out l9 p9 _ _ H17.out ML9.out MP9.out).mono ?_
 rintro e w18 ⟨rfl, h18x⟩
 have H18 := Lib.hid h18x
 clear RH h18x H17
 have RH := Lib.hid (RGH.out _ _ _ MHZ.out H18.out)
 go_wp2_with (with_reducible refine wpList_load_midg 95 rfl (by kernel_rfl) 45 (.tmp 10) rfl b10 0 rfl (HF4 b1 b2) _ RH.out Tryd.underlying45 rfl (IN4.out _ _) ?_)
 refine (KC4.out b1 b2 _ _ H18.out MLZ.out MPZ.out).mono ?_
 rintro e w19 ⟨rfl, h19x⟩
 have H19 := Lib.hid h19x
 clear RH h19x H18
 have RH := Lib.hid (RGH.out _ _ _ MHZ.out H19.out)
 go_wp2_with (with_reducible refine wpList_load_midg 100 rfl (by kernel_rfl) 45 (.tmp 10) rfl b10 0 rfl (HF4 b1 b2) _ RH.out Tryd.underlying45 rfl (IN4.out _ _) ?_)
 refine (KF4.out b1 b2 _ _ H19.out MLZ.out MPZ.out).mono ?_
 rintro e w20 ⟨rfl, h20x⟩
 have H20 := Lib.hid h20x
 clear RH h20x H19
 have RH := Lib.hid (RGH.out _ _ _ MH11.out H20.out)
 go_wp2_with (with_reducible refine wpList_load_midg 105 rfl (by kernel_rfl) 45 (.tmp 11) rfl h11 0 rfl (HF5 0 p11) _ RH.out Tryd.underlying45 rfl (IN5.out _ _) ?_)
 refine (KF5.out 0 p11 _ _ H20.out MP11.out).mono ?_
 rintro e w21 ⟨rfl, h21x⟩
 have H21 := Lib.hid h21x
 clear RH h21x H20
 go_wp2_with fail
 go_ret
 exact ⟨rfl, FIN.out _ _ H21.out⟩
end
end Go.Proofs.YtnjnooeldkideaaDoor
