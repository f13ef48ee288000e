/- SlotMoves: the walk of the law. -/
import Derived.Test.YtpjfmgifddoppaaDoorSlX
namespace Go.Proofs.YtpjfmgifddoppaaDoor
set_option linter.unusedVariables false
set_option linter.unusedSimpArgs false
open Go.RowKit Go.Lib

set_option maxRecDepth 100000 in
set_option maxHeartbeats 8000000 in
theorem walk_slotMoves (W : World) (sv : SV0 W) {H : Type} {enc : TypeId × Value → H} {v0 : Value} (a0 : Arg enc Tryd.prog W 26 v0) :
    Calls Tryd.prog 3 #[v0] W fun e w' => e = .returned (.bool true) ∧ Below W.heap.size W w' := by
  obtain ⟨s, rfl, ok⟩ := a0.slot
  have h0 := (St.start W).alloc (.cells s.cells 26)
  obtain ⟨b, hb⟩ : ∃ b, W.heap.size = b := ⟨_, rfl⟩
  rw [hb] at h0
  have kA := slot_alive sv h0
  have hle : Le (fun b => W.heap[b]?) (fun b => W.heap[b]?) := Le.refl _
  obtain ⟨p1, hp1⟩ : ∃ p, (⟨2, s.tr, s.ver, s.sz, s.dig⟩ : Slt) = p := ⟨_, rfl⟩
  have okx : p1.Ok := by rw [← hp1]; exact ⟨ok.dig, by simp, by simp, ok.tr0, ok.tr1, ok.ver0, ok.ver1, ok.sz0, ok.sz1⟩
  have kRd := fun (v : World) (F : List (Nat × Obj)) (hv : St W v (fun b => W.heap[b]?) F) => slot_ready s.ver s.sz s.tr s.dig (by rw [hp1]; exact okx) hv
  have kRx := fun (v : World) (F : List (Nat × Obj)) (hv : St W v (fun b => W.heap[b]?) F) => ref_right p1 okx hv
  have kT := fun (v : World) (F : List (Nat × Obj)) (hv : St W v (fun b => W.heap[b]?) F) => slot_try s ok hv
  have kT' := fun (v : World) (F : List (Nat × Obj)) (hv : St W v (fun b => W.heap[b]?) F) => ref_try s ok hv
  have kG := fun (v : World) (F : List (Nat × Obj)) (hv : St W v (fun b => W.heap[b]?) F) => slot_good s ok hv
  have kG' := fun (v : World) (F : List (Nat × Obj)) (hv : St W v (fun b => W.heap[b]?) F) => ref_good s ok hv
  have kB := fun (v : World) (F : List (Nat × Obj)) (hv : St W v (fun b => W.heap[b]?) F) => slot_bad s ok hv
  have kB' := fun (v : World) (F : List (Nat × Obj)) (hv : St W v (fun b => W.heap[b]?) F) => ref_bad s ok hv
  have l2 := try_len s ok.dig
  have l3 := good_len s ok.dig
  have l4 := bad_len s ok.dig
  have hbu := fun w => run_build_slot5 2 s.tr s.ver s.sz s.dig ok.dig w
  have hmd : (Tryd.prog.info? 24).map (·.size) = some (bcells s.dig).size := by rw [bcells_size, ok.dig]; kernel_rfl
  have hg4 : ∀ j, j < (bcells s.dig).size → s.cells[4 + j]? = (bcells s.dig)[j]? := fun j hj => by rw [Slt.at4]; unfold bcells; rw [List.getElem?_toArray]
  simp only [hp1] at kRd hbu
  have hck := chkS.eq_1 p1
  have l1 : (chkS p1).1.dig.length = 32 := chk_len p1 okx.dig
  obtain ⟨⟨pA, eA⟩, hpA⟩ : ∃ p, chkS p1 = p := ⟨_, rfl⟩
  obtain ⟨⟨pB, eB⟩, hpB⟩ : ∃ p, tryS s = p := ⟨_, rfl⟩
  obtain ⟨⟨pC, eC⟩, hpC⟩ : ∃ p, goodS s = p := ⟨_, rfl⟩
  obtain ⟨⟨pD, eD⟩, hpD⟩ : ∃ p, badS s = p := ⟨_, rfl⟩
  simp only [hpA] at kRd l1 hck
  simp only [hpB] at kT kT' l2
  simp only [hpC] at kG kG' l3
  simp only [hpD] at kB kB' l4
  unfold Slt.val at kRx kT kT' kG kG' kB kB' ⊢
  obtain ⟨fpA, mpA⟩ := slot_fit (s := zS) (t := pA) zeros_len l1
  rw [show zS.cells = #[.int .i64 0, .int .i64 0, .int .u64 0, .int .i64 0, .int .u8 0, .int .u8 0, .int .u8 0, .int .u8 0, .int .u8 0, .int .u8 0, .int .u8 0, .int .u8 0, .int .u8 0, .int .u8 0, .int .u8 0, .int .u8 0, .int .u8 0, .int .u8 0, .int .u8 0, .int .u8 0, .int .u8 0, .int .u8 0, .int .u8 0, .int .u8 0, .int .u8 0, .int .u8 0, .int .u8 0, .int .u8 0, .int .u8 0, .int .u8 0, .int .u8 0, .int .u8 0, .int .u8 0, .int .u8 0, .int .u8 0, .int .u8 0] from bare_lit 0 ▸ rfl] at fpA mpA
  have ipA := slot_info (s := pA) l1
  have opA := Slt.one pA
  have qpA := fun w => eq_slot pA pA l1 l1 w
  rw [same_refl] at qpA
  have FpA := Lib.hid fpA; have MpA := Lib.hid mpA; have IpA := Lib.hid ipA; have OpA := Lib.hid opA
  clear fpA mpA ipA opA
  obtain ⟨fpB, mpB⟩ := slot_fit (s := zS) (t := pB) zeros_len l2
  rw [show zS.cells = #[.int .i64 0, .int .i64 0, .int .u64 0, .int .i64 0, .int .u8 0, .int .u8 0, .int .u8 0, .int .u8 0, .int .u8 0, .int .u8 0, .int .u8 0, .int .u8 0, .int .u8 0, .int .u8 0, .int .u8 0, .int .u8 0, .int .u8 0, .int .u8 0, .int .u8 0, .int .u8 0, .int .u8 0, .int .u8 0, .int .u8 0, .int .u8 0, .int .u8 0, .int .u8 0, .int .u8 0, .int .u8 0, .int .u8 0, .int .u8 0, .int .u8 0, .int .u8 0, .int .u8 0, .int .u8 0, .int .u8 0, .int .u8 0] from bare_lit 0 ▸ rfl] at fpB mpB
  have ipB := slot_info (s := pB) l2
  have opB := Slt.one pB
  have qpB := fun w => eq_slot pB pB l2 l2 w
  rw [same_refl] at qpB
  have FpB := Lib.hid fpB; have MpB := Lib.hid mpB; have IpB := Lib.hid ipB; have OpB := Lib.hid opB
  clear fpB mpB ipB opB
  obtain ⟨fpC, mpC⟩ := slot_fit (s := zS) (t := pC) zeros_len l3
  rw [show zS.cells = #[.int .i64 0, .int .i64 0, .int .u64 0, .int .i64 0, .int .u8 0, .int .u8 0, .int .u8 0, .int .u8 0, .int .u8 0, .int .u8 0, .int .u8 0, .int .u8 0, .int .u8 0, .int .u8 0, .int .u8 0, .int .u8 0, .int .u8 0, .int .u8 0, .int .u8 0, .int .u8 0, .int .u8 0, .int .u8 0, .int .u8 0, .int .u8 0, .int .u8 0, .int .u8 0, .int .u8 0, .int .u8 0, .int .u8 0, .int .u8 0, .int .u8 0, .int .u8 0, .int .u8 0, .int .u8 0, .int .u8 0, .int .u8 0] from bare_lit 0 ▸ rfl] at fpC mpC
  have ipC := slot_info (s := pC) l3
  have opC := Slt.one pC
  have qpC := fun w => eq_slot pC pC l3 l3 w
  rw [same_refl] at qpC
  have FpC := Lib.hid fpC; have MpC := Lib.hid mpC; have IpC := Lib.hid ipC; have OpC := Lib.hid opC
  clear fpC mpC ipC opC
  obtain ⟨fpD, mpD⟩ := slot_fit (s := zS) (t := pD) zeros_len l4
  rw [show zS.cells = #[.int .i64 0, .int .i64 0, .int .u64 0, .int .i64 0, .int .u8 0, .int .u8 0, .int .u8 0, .int .u8 0, .int .u8 0, .int .u8 0, .int .u8 0, .int .u8 0, .int .u8 0, .int .u8 0, .int .u8 0, .int .u8 0, .int .u8 0, .int .u8 0, .int .u8 0, .int .u8 0, .int .u8 0, .int .u8 0, .int .u8 0, .int .u8 0, .int .u8 0, .int .u8 0, .int .u8 0, .int .u8 0, .int .u8 0, .int .u8 0, .int .u8 0, .int .u8 0, .int .u8 0, .int .u8 0, .int .u8 0, .int .u8 0] from bare_lit 0 ▸ rfl] at fpD mpD
  have ipD := slot_info (s := pD) l4
  have opD := Slt.one pD
  have qpD := fun w => eq_slot pD pD l4 l4 w
  rw [same_refl] at qpD
  have FpD := Lib.hid fpD; have MpD := Lib.hid mpD; have IpD := Lib.hid ipD; have OpD := Lib.hid opD
  clear fpD mpD ipD opD
  obtain ⟨fp1, mp1⟩ := slot_fit (s := zS) (t := p1) zeros_len okx.dig
  rw [show zS.cells = #[.int .i64 0, .int .i64 0, .int .u64 0, .int .i64 0, .int .u8 0, .int .u8 0, .int .u8 0, .int .u8 0, .int .u8 0, .int .u8 0, .int .u8 0, .int .u8 0, .int .u8 0, .int .u8 0, .int .u8 0, .int .u8 0, .int .u8 0, .int .u8 0, .int .u8 0, .int .u8 0, .int .u8 0, .int .u8 0, .int .u8 0, .int .u8 0, .int .u8 0, .int .u8 0, .int .u8 0, .int .u8 0, .int .u8 0, .int .u8 0, .int .u8 0, .int .u8 0, .int .u8 0, .int .u8 0, .int .u8 0, .int .u8 0] from bare_lit 0 ▸ rfl] at fp1 mp1
  have ip1 := slot_info (s := p1) okx.dig
  have op1 := Slt.one p1
  have qp1 := fun w => eq_slot p1 p1 okx.dig okx.dig w
  rw [same_refl] at qp1
  have Fp1 := Lib.hid fp1; have Mp1 := Lib.hid mp1; have Ip1 := Lib.hid ip1; have Op1 := Lib.hid op1
  clear fp1 mp1 ip1 op1
  obtain ⟨fzS, mzS⟩ := slot_fit (s := zS) (t := zS) zeros_len zeros_len
  rw [show zS.cells = #[.int .i64 0, .int .i64 0, .int .u64 0, .int .i64 0, .int .u8 0, .int .u8 0, .int .u8 0, .int .u8 0, .int .u8 0, .int .u8 0, .int .u8 0, .int .u8 0, .int .u8 0, .int .u8 0, .int .u8 0, .int .u8 0, .int .u8 0, .int .u8 0, .int .u8 0, .int .u8 0, .int .u8 0, .int .u8 0, .int .u8 0, .int .u8 0, .int .u8 0, .int .u8 0, .int .u8 0, .int .u8 0, .int .u8 0, .int .u8 0, .int .u8 0, .int .u8 0, .int .u8 0, .int .u8 0, .int .u8 0, .int .u8 0] from bare_lit 0 ▸ rfl] at fzS mzS
  have izS := slot_info (s := zS) zeros_len
  have ozS := Slt.one zS
  have qzS := fun w => eq_slot zS zS zeros_len zeros_len w
  rw [same_refl] at qzS
  have FzS := Lib.hid fzS; have MzS := Lib.hid mzS; have IzS := Lib.hid izS; have OzS := Lib.hid ozS
  clear fzS mzS izS ozS
  obtain ⟨fz, mz⟩ := slot_fit (s := p1) (t := zS) okx.dig zeros_len
  have iz := slot_info (s := zS) zeros_len
  have oz := Slt.one zS
  have zl : zS.cells = #[.int .i64 0, .int .i64 0, .int .u64 0, .int .i64 0, .int .u8 0, .int .u8 0, .int .u8 0, .int .u8 0, .int .u8 0, .int .u8 0, .int .u8 0, .int .u8 0, .int .u8 0, .int .u8 0, .int .u8 0, .int .u8 0, .int .u8 0, .int .u8 0, .int .u8 0, .int .u8 0, .int .u8 0, .int .u8 0, .int .u8 0, .int .u8 0, .int .u8 0, .int .u8 0, .int .u8 0, .int .u8 0, .int .u8 0, .int .u8 0, .int .u8 0, .int .u8 0, .int .u8 0, .int .u8 0, .int .u8 0, .int .u8 0] := bare_lit 0 ▸ rfl
  rw [zl] at fz mz iz oz
  have FZ := Lib.hid fz; have MZ := Lib.hid mz; have IZ := Lib.hid iz; have OZ := Lib.hid oz; have ZL := Lib.hid zl
  clear fz mz iz oz zl
  have HMI := Lib.hid (slot_info (s := s) ok.dig)
  have KA := Lib.hid kA; have KRD := Lib.hid kRd; have KRX := Lib.hid kRx; have KT := Lib.hid kT; have KT' := Lib.hid kT'; have KG := Lib.hid kG; have KG' := Lib.hid kG'; have KB := Lib.hid kB; have KB' := Lib.hid kB'
  have HBU := Lib.hid hbu; have HMD := Lib.hid hmd; have HG4 := Lib.hid hg4; have HCK := Lib.hid hck
  have q3 : (eA == eA) = true := beq_self_eq_true _
  have q4 : (eB == eB) = true := beq_self_eq_true _
  have q5 : (eC == eC) = true := beq_self_eq_true _
  have q6 : (eD == eD) = true := beq_self_eq_true _
  clear kA kRd kRx kT kT' kG kG' kB kB' hbu hmd hg4 hck hp1 hpA hpB hpC hpD a0 ok okx h0 qp1 qzS l2 l3 l4 hle
  go_enter Tryd.func3, Tryd.ntmps3
  go_wp2_with fail
  refine KA.out.mono ?_
  rintro e w1 ⟨rfl, h1⟩
  obtain ⟨c0, c1, c2, c3⟩ := h1.slt
  have HX := Lib.hid h1
  clear KA h1 hb
  go_wp2_with (with_reducible refine wpList_load_st rfl 24 (.tmp 26) rfl (g := b) (off := 4) rfl HX.out (cs := s.cells) (t := 26) (fr := (0, 0)) (by simp) (bcells s.dig) HG4.out _ Tryd.underlying24 rfl HMD.out ?_)
  refine (KRD.out _ _ HX.out).mono ?_
  rintro e w2 ⟨rfl, h2⟩
  clear c0 c1 c2 c3 HX
  have HX := Lib.hid h2
  clear h2 KRD
  have hA := HX.out.alloc (.cells #[.int .i64 0, .int .i64 0, .int .u64 0, .int .i64 0, .int .u8 0, .int .u8 0, .int .u8 0, .int .u8 0, .int .u8 0, .int .u8 0, .int .u8 0, .int .u8 0, .int .u8 0, .int .u8 0, .int .u8 0, .int .u8 0, .int .u8 0, .int .u8 0, .int .u8 0, .int .u8 0, .int .u8 0, .int .u8 0, .int .u8 0, .int .u8 0, .int .u8 0, .int .u8 0, .int .u8 0, .int .u8 0, .int .u8 0, .int .u8 0, .int .u8 0, .int .u8 0, .int .u8 0, .int .u8 0, .int .u8 0, .int .u8 0] 26)
  have HA := Lib.hid hA
  clear hA
  try dsimp only
  go_wp2_with (with_reducible refine wpList_store_st rfl 26 (.tmp 3) (.tmp 31) rfl (g := w2.heap.size) (off := 0) pA.cells rfl rfl HA.out FpA.out IpA.out OpA.out ?_; intro w9 h9; refine Hid.out ?_)
  refine Lib.hid ?_
  rw [MpA.out] at h9
  clear HX HA
  generalize w2.heap.size = n3 at *
  obtain ⟨v3, hv3⟩ : ∃ v, w9 = v := ⟨_, rfl⟩
  rw [hv3] at h9 ⊢
  clear hv3
  have HX := Lib.hid h9
  clear h9
  have c1 := HX.out.cell (g := b) (cs := s.cells) (t := 26) (fr := (0, 0)) (by simp) 1
  have c2 := HX.out.cell (g := b) (cs := s.cells) (t := 26) (fr := (0, 0)) (by simp) 2
  have c3 := HX.out.cell (g := b) (cs := s.cells) (t := 26) (fr := (0, 0)) (by simp) 3
  rw [Slt.at1] at c1
  rw [Slt.at2] at c2
  rw [Slt.at3] at c3
  have hA := HX.out.alloc (.cells #[.int .i64 0, .int .i64 0, .int .u64 0, .int .i64 0, .int .u8 0, .int .u8 0, .int .u8 0, .int .u8 0, .int .u8 0, .int .u8 0, .int .u8 0, .int .u8 0, .int .u8 0, .int .u8 0, .int .u8 0, .int .u8 0, .int .u8 0, .int .u8 0, .int .u8 0, .int .u8 0, .int .u8 0, .int .u8 0, .int .u8 0, .int .u8 0, .int .u8 0, .int .u8 0, .int .u8 0, .int .u8 0, .int .u8 0, .int .u8 0, .int .u8 0, .int .u8 0, .int .u8 0, .int .u8 0, .int .u8 0, .int .u8 0] 26)
  have HA := Lib.hid hA
  clear hA
  try dsimp only
  go_wp2_with (first
    | (with_reducible refine wpList_load_st rfl 24 (.tmp 39) rfl (g := b) (off := 4) rfl HX.out (cs := s.cells) (t := 26) (fr := (0, 0)) (by simp) (bcells s.dig) HG4.out _ Tryd.underlying24 rfl HMD.out ?_)
    | (with_reducible refine wpList_build_st rfl 26 _ rfl _ ?_ (HBU.out _) ?_; · go_simp)
    | (with_reducible refine wpList_store_st rfl 26 (.tmp 5) (.tmp 41) rfl (g := v3.heap.size) (off := 0) p1.cells rfl rfl HA.out Fp1.out Ip1.out Op1.out ?_; intro w9 h9; refine Hid.out ?_))
  refine Lib.hid ?_
  rw [Mp1.out] at h9
  clear HX HA
  generalize v3.heap.size = n5 at *
  obtain ⟨v5, hv5⟩ : ∃ v, w9 = v := ⟨_, rfl⟩
  rw [hv5] at h9 ⊢
  clear hv5
  have HX := Lib.hid h9
  clear h9
  clear c1 c2 c3 HBU
  go_wp2_with (with_reducible refine wpList_load_st rfl 26 (.tmp 5) rfl (g := n5) (off := 0) rfl HX.out (cs := p1.cells) (t := 26) (fr := (0, 0)) (by simp) p1.cells (fun j hj => by rw [Nat.zero_add]) _ Tryd.underlying26 rfl Ip1.out ?_)
  refine (KRX.out _ _ HX.out).mono ?_
  rintro e w6 ⟨rfl, h6⟩
  have HX6 := Lib.hid h6
  clear h6 KRX HX
  obtain ⟨R, hR⟩ : ∃ R, rightS p1 = R := ⟨_, rfl⟩
  have hck := HCK.out
  rw [hR] at hck ⊢
  clear HCK hR
  cases R with
  | false =>
    rw [if_neg (by decide)] at hck
    injection hck with hc1 hc2
    subst hc1; subst hc2
    go_wp2_with (with_reducible refine wpList_store_st rfl 26 (.tmp 5) (.tmp 45) rfl (g := n5) (off := 0) #[.int .i64 0, .int .i64 0, .int .u64 0, .int .i64 0, .int .u8 0, .int .u8 0, .int .u8 0, .int .u8 0, .int .u8 0, .int .u8 0, .int .u8 0, .int .u8 0, .int .u8 0, .int .u8 0, .int .u8 0, .int .u8 0, .int .u8 0, .int .u8 0, .int .u8 0, .int .u8 0, .int .u8 0, .int .u8 0, .int .u8 0, .int .u8 0, .int .u8 0, .int .u8 0, .int .u8 0, .int .u8 0, .int .u8 0, .int .u8 0, .int .u8 0, .int .u8 0, .int .u8 0, .int .u8 0, .int .u8 0, .int .u8 0] rfl rfl HX6.out FZ.out IZ.out OZ.out ?_; intro w9 h9; refine Hid.out ?_)
    refine Lib.hid ?_
    rw [MZ.out, ← ZL.out] at h9
    have HX := Lib.hid h9
    clear h9 HX6
    go_wp2_with (with_reducible refine wpList_load_st rfl 26 (.tmp 1) rfl (g := b) (off := 0) rfl HX.out (cs := s.cells) (t := 26) (fr := (0, 0)) (by simp) s.cells (fun j hj => by rw [Nat.zero_add]) _ Tryd.underlying26 rfl HMI.out ?_)
    refine (KT.out _ _ HX.out).mono ?_
    rintro e w8 ⟨rfl, h8⟩
    obtain ⟨u7, hu7⟩ : ∃ u, w8 = u := ⟨_, rfl⟩
    rw [hu7] at h8 ⊢
    clear hu7 HX
    have HX := Lib.hid h8
    clear h8 KT
    have hA := HX.out.alloc (.cells #[.int .i64 0, .int .i64 0, .int .u64 0, .int .i64 0, .int .u8 0, .int .u8 0, .int .u8 0, .int .u8 0, .int .u8 0, .int .u8 0, .int .u8 0, .int .u8 0, .int .u8 0, .int .u8 0, .int .u8 0, .int .u8 0, .int .u8 0, .int .u8 0, .int .u8 0, .int .u8 0, .int .u8 0, .int .u8 0, .int .u8 0, .int .u8 0, .int .u8 0, .int .u8 0, .int .u8 0, .int .u8 0, .int .u8 0, .int .u8 0, .int .u8 0, .int .u8 0, .int .u8 0, .int .u8 0, .int .u8 0, .int .u8 0] 26)
    have HA := Lib.hid hA
    clear hA
    try dsimp only
    go_wp2_with (with_reducible refine wpList_store_st rfl 26 (.tmp 7) (.tmp 49) rfl (g := u7.heap.size) (off := 0) pB.cells rfl rfl HA.out FpB.out IpB.out OpB.out ?_; intro w9 h9; refine Hid.out ?_)
    refine Lib.hid ?_
    rw [MpB.out] at h9
    clear HX HA
    generalize u7.heap.size = n7 at *
    obtain ⟨v7, hv7⟩ : ∃ v, w9 = v := ⟨_, rfl⟩
    rw [hv7] at h9 ⊢
    clear hv7
    have HX := Lib.hid h9
    clear h9
    go_wp2_with (with_reducible refine wpList_load_st rfl 26 (.tmp 1) rfl (g := b) (off := 0) rfl HX.out (cs := s.cells) (t := 26) (fr := (0, 0)) (by simp) s.cells (fun j hj => by rw [Nat.zero_add]) _ Tryd.underlying26 rfl HMI.out ?_)
    refine (KT'.out _ _ HX.out).mono ?_
    rintro e w8 ⟨rfl, h8⟩
    obtain ⟨u9, hu9⟩ : ∃ u, w8 = u := ⟨_, rfl⟩
    rw [hu9] at h8 ⊢
    clear hu9 HX
    have HX := Lib.hid h8
    clear h8 KT'
    have hA := HX.out.alloc (.cells #[.int .i64 0, .int .i64 0, .int .u64 0, .int .i64 0, .int .u8 0, .int .u8 0, .int .u8 0, .int .u8 0, .int .u8 0, .int .u8 0, .int .u8 0, .int .u8 0, .int .u8 0, .int .u8 0, .int .u8 0, .int .u8 0, .int .u8 0, .int .u8 0, .int .u8 0, .int .u8 0, .int .u8 0, .int .u8 0, .int .u8 0, .int .u8 0, .int .u8 0, .int .u8 0, .int .u8 0, .int .u8 0, .int .u8 0, .int .u8 0, .int .u8 0, .int .u8 0, .int .u8 0, .int .u8 0, .int .u8 0, .int .u8 0] 26)
    have HA := Lib.hid hA
    clear hA
    try dsimp only
    go_wp2_with (with_reducible refine wpList_store_st rfl 26 (.tmp 9) (.tmp 54) rfl (g := u9.heap.size) (off := 0) pB.cells rfl rfl HA.out FpB.out IpB.out OpB.out ?_; intro w9 h9; refine Hid.out ?_)
    refine Lib.hid ?_
    rw [MpB.out] at h9
    clear HX HA
    generalize u9.heap.size = n9 at *
    obtain ⟨v9, hv9⟩ : ∃ v, w9 = v := ⟨_, rfl⟩
    rw [hv9] at h9 ⊢
    clear hv9
    have HX := Lib.hid h9
    clear h9
    go_wp2_with (with_reducible refine wpList_load_st rfl 26 (.tmp 1) rfl (g := b) (off := 0) rfl HX.out (cs := s.cells) (t := 26) (fr := (0, 0)) (by simp) s.cells (fun j hj => by rw [Nat.zero_add]) _ Tryd.underlying26 rfl HMI.out ?_)
    refine (KG.out _ _ HX.out).mono ?_
    rintro e w8 ⟨rfl, h8⟩
    obtain ⟨u11, hu11⟩ : ∃ u, w8 = u := ⟨_, rfl⟩
    rw [hu11] at h8 ⊢
    clear hu11 HX
    have HX := Lib.hid h8
    clear h8 KG
    have hA := HX.out.alloc (.cells #[.int .i64 0, .int .i64 0, .int .u64 0, .int .i64 0, .int .u8 0, .int .u8 0, .int .u8 0, .int .u8 0, .int .u8 0, .int .u8 0, .int .u8 0, .int .u8 0, .int .u8 0, .int .u8 0, .int .u8 0, .int .u8 0, .int .u8 0, .int .u8 0, .int .u8 0, .int .u8 0, .int .u8 0, .int .u8 0, .int .u8 0, .int .u8 0, .int .u8 0, .int .u8 0, .int .u8 0, .int .u8 0, .int .u8 0, .int .u8 0, .int .u8 0, .int .u8 0, .int .u8 0, .int .u8 0, .int .u8 0, .int .u8 0] 26)
    have HA := Lib.hid hA
    clear hA
    try dsimp only
    go_wp2_with (with_reducible refine wpList_store_st rfl 26 (.tmp 11) (.tmp 59) rfl (g := u11.heap.size) (off := 0) pC.cells rfl rfl HA.out FpC.out IpC.out OpC.out ?_; intro w9 h9; refine Hid.out ?_)
    refine Lib.hid ?_
    rw [MpC.out] at h9
    clear HX HA
    generalize u11.heap.size = n11 at *
    obtain ⟨v11, hv11⟩ : ∃ v, w9 = v := ⟨_, rfl⟩
    rw [hv11] at h9 ⊢
    clear hv11
    have HX := Lib.hid h9
    clear h9
    go_wp2_with (with_reducible refine wpList_load_st rfl 26 (.tmp 1) rfl (g := b) (off := 0) rfl HX.out (cs := s.cells) (t := 26) (fr := (0, 0)) (by simp) s.cells (fun j hj => by rw [Nat.zero_add]) _ Tryd.underlying26 rfl HMI.out ?_)
    refine (KG'.out _ _ HX.out).mono ?_
    rintro e w8 ⟨rfl, h8⟩
    obtain ⟨u13, hu13⟩ : ∃ u, w8 = u := ⟨_, rfl⟩
    rw [hu13] at h8 ⊢
    clear hu13 HX
    have HX := Lib.hid h8
    clear h8 KG'
    have hA := HX.out.alloc (.cells #[.int .i64 0, .int .i64 0, .int .u64 0, .int .i64 0, .int .u8 0, .int .u8 0, .int .u8 0, .int .u8 0, .int .u8 0, .int .u8 0, .int .u8 0, .int .u8 0, .int .u8 0, .int .u8 0, .int .u8 0, .int .u8 0, .int .u8 0, .int .u8 0, .int .u8 0, .int .u8 0, .int .u8 0, .int .u8 0, .int .u8 0, .int .u8 0, .int .u8 0, .int .u8 0, .int .u8 0, .int .u8 0, .int .u8 0, .int .u8 0, .int .u8 0, .int .u8 0, .int .u8 0, .int .u8 0, .int .u8 0, .int .u8 0] 26)
    have HA := Lib.hid hA
    clear hA
    try dsimp only
    go_wp2_with (with_reducible refine wpList_store_st rfl 26 (.tmp 13) (.tmp 64) rfl (g := u13.heap.size) (off := 0) pC.cells rfl rfl HA.out FpC.out IpC.out OpC.out ?_; intro w9 h9; refine Hid.out ?_)
    refine Lib.hid ?_
    rw [MpC.out] at h9
    clear HX HA
    generalize u13.heap.size = n13 at *
    obtain ⟨v13, hv13⟩ : ∃ v, w9 = v := ⟨_, rfl⟩
    rw [hv13] at h9 ⊢
    clear hv13
    have HX := Lib.hid h9
    clear h9
    go_wp2_with (with_reducible refine wpList_load_st rfl 26 (.tmp 1) rfl (g := b) (off := 0) rfl HX.out (cs := s.cells) (t := 26) (fr := (0, 0)) (by simp) s.cells (fun j hj => by rw [Nat.zero_add]) _ Tryd.underlying26 rfl HMI.out ?_)
    refine (KB.out _ _ HX.out).mono ?_
    rintro e w8 ⟨rfl, h8⟩
    obtain ⟨u15, hu15⟩ : ∃ u, w8 = u := ⟨_, rfl⟩
    rw [hu15] at h8 ⊢
    clear hu15 HX
    have HX := Lib.hid h8
    clear h8 KB
    have hA := HX.out.alloc (.cells #[.int .i64 0, .int .i64 0, .int .u64 0, .int .i64 0, .int .u8 0, .int .u8 0, .int .u8 0, .int .u8 0, .int .u8 0, .int .u8 0, .int .u8 0, .int .u8 0, .int .u8 0, .int .u8 0, .int .u8 0, .int .u8 0, .int .u8 0, .int .u8 0, .int .u8 0, .int .u8 0, .int .u8 0, .int .u8 0, .int .u8 0, .int .u8 0, .int .u8 0, .int .u8 0, .int .u8 0, .int .u8 0, .int .u8 0, .int .u8 0, .int .u8 0, .int .u8 0, .int .u8 0, .int .u8 0, .int .u8 0, .int .u8 0] 26)
    have HA := Lib.hid hA
    clear hA
    try dsimp only
    go_wp2_with (with_reducible refine wpList_store_st rfl 26 (.tmp 15) (.tmp 69) rfl (g := u15.heap.size) (off := 0) pD.cells rfl rfl HA.out FpD.out IpD.out OpD.out ?_; intro w9 h9; refine Hid.out ?_)
    refine Lib.hid ?_
    rw [MpD.out] at h9
    clear HX HA
    generalize u15.heap.size = n15 at *
    obtain ⟨v15, hv15⟩ : ∃ v, w9 = v := ⟨_, rfl⟩
    rw [hv15] at h9 ⊢
    clear hv15
    have HX := Lib.hid h9
    clear h9
    go_wp2_with (with_reducible refine wpList_load_st rfl 26 (.tmp 1) rfl (g := b) (off := 0) rfl HX.out (cs := s.cells) (t := 26) (fr := (0, 0)) (by simp) s.cells (fun j hj => by rw [Nat.zero_add]) _ Tryd.underlying26 rfl HMI.out ?_)
    refine (KB'.out _ _ HX.out).mono ?_
    rintro e w8 ⟨rfl, h8⟩
    obtain ⟨u17, hu17⟩ : ∃ u, w8 = u := ⟨_, rfl⟩
    rw [hu17] at h8 ⊢
    clear hu17 HX
    have HX := Lib.hid h8
    clear h8 KB'
    have hA := HX.out.alloc (.cells #[.int .i64 0, .int .i64 0, .int .u64 0, .int .i64 0, .int .u8 0, .int .u8 0, .int .u8 0, .int .u8 0, .int .u8 0, .int .u8 0, .int .u8 0, .int .u8 0, .int .u8 0, .int .u8 0, .int .u8 0, .int .u8 0, .int .u8 0, .int .u8 0, .int .u8 0, .int .u8 0, .int .u8 0, .int .u8 0, .int .u8 0, .int .u8 0, .int .u8 0, .int .u8 0, .int .u8 0, .int .u8 0, .int .u8 0, .int .u8 0, .int .u8 0, .int .u8 0, .int .u8 0, .int .u8 0, .int .u8 0, .int .u8 0] 26)
    have HA := Lib.hid hA
    clear hA
    try dsimp only
    go_wp2_with (with_reducible refine wpList_store_st rfl 26 (.tmp 17) (.tmp 74) rfl (g := u17.heap.size) (off := 0) pD.cells rfl rfl HA.out FpD.out IpD.out OpD.out ?_; intro w9 h9; refine Hid.out ?_)
    refine Lib.hid ?_
    rw [MpD.out] at h9
    clear HX HA
    generalize u17.heap.size = n17 at *
    obtain ⟨v17, hv17⟩ : ∃ v, w9 = v := ⟨_, rfl⟩
    rw [hv17] at h9 ⊢
    clear hv17
    have HX := Lib.hid h9
    clear h9
    have HF : Hid (Below W.heap.size W v17) := Lib.hid (HX.out.below (Le.refl _))
    go_wp2_with (first
      | (with_reducible refine wpList_load_st rfl 26 (.tmp 3) rfl (g := n3) (off := 0) rfl HX.out (cs := zS.cells) (t := 26) (fr := (0, 0)) (by simp) zS.cells (fun j hj => by rw [Nat.zero_add]) _ Tryd.underlying26 rfl IzS.out ?_)
      | (with_reducible refine wpList_load_st rfl 26 (.tmp 5) rfl (g := n5) (off := 0) rfl HX.out (cs := zS.cells) (t := 26) (fr := (0, 0)) (by simp) zS.cells (fun j hj => by rw [Nat.zero_add]) _ Tryd.underlying26 rfl IzS.out ?_)
      | (refine wpList_load_g (by rfl) 26 (.tmp 7) rfl (g := n7) (off := 0) rfl HX.out (cs := pB.cells) (t := 26) (fr := (0, 0)) (by simp) pB.cells (fun j hj => by rw [Nat.zero_add]) _ Tryd.underlying26 rfl IpB.out ?_)
      | (refine wpList_load_g (by rfl) 26 (.tmp 9) rfl (g := n9) (off := 0) rfl HX.out (cs := pB.cells) (t := 26) (fr := (0, 0)) (by simp) pB.cells (fun j hj => by rw [Nat.zero_add]) _ Tryd.underlying26 rfl IpB.out ?_)
      | (refine wpList_load_g (by rfl) 26 (.tmp 11) rfl (g := n11) (off := 0) rfl HX.out (cs := pC.cells) (t := 26) (fr := (0, 0)) (by simp) pC.cells (fun j hj => by rw [Nat.zero_add]) _ Tryd.underlying26 rfl IpC.out ?_)
      | (refine wpList_load_g (by rfl) 26 (.tmp 13) rfl (g := n13) (off := 0) rfl HX.out (cs := pC.cells) (t := 26) (fr := (0, 0)) (by simp) pC.cells (fun j hj => by rw [Nat.zero_add]) _ Tryd.underlying26 rfl IpC.out ?_)
      | (refine wpList_load_g (by rfl) 26 (.tmp 15) rfl (g := n15) (off := 0) rfl HX.out (cs := pD.cells) (t := 26) (fr := (0, 0)) (by simp) pD.cells (fun j hj => by rw [Nat.zero_add]) _ Tryd.underlying26 rfl IpD.out ?_)
      | (refine wpList_load_g (by rfl) 26 (.tmp 17) rfl (g := n17) (off := 0) rfl HX.out (cs := pD.cells) (t := 26) (fr := (0, 0)) (by simp) pD.cells (fun j hj => by rw [Nat.zero_add]) _ Tryd.underlying26 rfl IpD.out ?_))
    go_ret
    exact ⟨rfl, HF.out⟩

  | true =>
    rw [if_pos rfl] at hck
    injection hck with hc1 hc2
    subst hc1; subst hc2
    have HX := HX6
    clear HX6
    go_wp2_with (with_reducible refine wpList_load_st rfl 26 (.tmp 1) rfl (g := b) (off := 0) rfl HX.out (cs := s.cells) (t := 26) (fr := (0, 0)) (by simp) s.cells (fun j hj => by rw [Nat.zero_add]) _ Tryd.underlying26 rfl HMI.out ?_)
    refine (KT.out _ _ HX.out).mono ?_
    rintro e w8 ⟨rfl, h8⟩
    obtain ⟨u7, hu7⟩ : ∃ u, w8 = u := ⟨_, rfl⟩
    rw [hu7] at h8 ⊢
    clear hu7 HX
    have HX := Lib.hid h8
    clear h8 KT
    have hA := HX.out.alloc (.cells #[.int .i64 0, .int .i64 0, .int .u64 0, .int .i64 0, .int .u8 0, .int .u8 0, .int .u8 0, .int .u8 0, .int .u8 0, .int .u8 0, .int .u8 0, .int .u8 0, .int .u8 0, .int .u8 0, .int .u8 0, .int .u8 0, .int .u8 0, .int .u8 0, .int .u8 0, .int .u8 0, .int .u8 0, .int .u8 0, .int .u8 0, .int .u8 0, .int .u8 0, .int .u8 0, .int .u8 0, .int .u8 0, .int .u8 0, .int .u8 0, .int .u8 0, .int .u8 0, .int .u8 0, .int .u8 0, .int .u8 0, .int .u8 0] 26)
    have HA := Lib.hid hA
    clear hA
    try dsimp only
    go_wp2_with (with_reducible refine wpList_store_st rfl 26 (.tmp 7) (.tmp 49) rfl (g := u7.heap.size) (off := 0) pB.cells rfl rfl HA.out FpB.out IpB.out OpB.out ?_; intro w9 h9; refine Hid.out ?_)
    refine Lib.hid ?_
    rw [MpB.out] at h9
    clear HX HA
    generalize u7.heap.size = n7 at *
    obtain ⟨v7, hv7⟩ : ∃ v, w9 = v := ⟨_, rfl⟩
    rw [hv7] at h9 ⊢
    clear hv7
    have HX := Lib.hid h9
    clear h9
    go_wp2_with (with_reducible refine wpList_load_st rfl 26 (.tmp 1) rfl (g := b) (off := 0) rfl HX.out (cs := s.cells) (t := 26) (fr := (0, 0)) (by simp) s.cells (fun j hj => by rw [Nat.zero_add]) _ Tryd.underlying26 rfl HMI.out ?_)
    refine (KT'.out _ _ HX.out).mono ?_
    rintro e w8 ⟨rfl, h8⟩
    obtain ⟨u9, hu9⟩ : ∃ u, w8 = u := ⟨_, rfl⟩
    rw [hu9] at h8 ⊢
    clear hu9 HX
    have HX := Lib.hid h8
    clear h8 KT'
    have hA := HX.out.alloc (.cells #[.int .i64 0, .int .i64 0, .int .u64 0, .int .i64 0, .int .u8 0, .int .u8 0, .int .u8 0, .int .u8 0, .int .u8 0, .int .u8 0, .int .u8 0, .int .u8 0, .int .u8 0, .int .u8 0, .int .u8 0, .int .u8 0, .int .u8 0, .int .u8 0, .int .u8 0, .int .u8 0, .int .u8 0, .int .u8 0, .int .u8 0, .int .u8 0, .int .u8 0, .int .u8 0, .int .u8 0, .int .u8 0, .int .u8 0, .int .u8 0, .int .u8 0, .int .u8 0, .int .u8 0, .int .u8 0, .int .u8 0, .int .u8 0] 26)
    have HA := Lib.hid hA
    clear hA
    try dsimp only
    go_wp2_with (with_reducible refine wpList_store_st rfl 26 (.tmp 9) (.tmp 54) rfl (g := u9.heap.size) (off := 0) pB.cells rfl rfl HA.out FpB.out IpB.out OpB.out ?_; intro w9 h9; refine Hid.out ?_)
    refine Lib.hid ?_
    rw [MpB.out] at h9
    clear HX HA
    generalize u9.heap.size = n9 at *
    obtain ⟨v9, hv9⟩ : ∃ v, w9 = v := ⟨_, rfl⟩
    rw [hv9] at h9 ⊢
    clear hv9
    have HX := Lib.hid h9
    clear h9
    go_wp2_with (with_reducible refine wpList_load_st rfl 26 (.tmp 1) rfl (g := b) (off := 0) rfl HX.out (cs := s.cells) (t := 26) (fr := (0, 0)) (by simp) s.cells (fun j hj => by rw [Nat.zero_add]) _ Tryd.underlying26 rfl HMI.out ?_)
    refine (KG.out _ _ HX.out).mono ?_
    rintro e w8 ⟨rfl, h8⟩
    obtain ⟨u11, hu11⟩ : ∃ u, w8 = u := ⟨_, rfl⟩
    rw [hu11] at h8 ⊢
    clear hu11 HX
    have HX := Lib.hid h8
    clear h8 KG
    have hA := HX.out.alloc (.cells #[.int .i64 0, .int .i64 0, .int .u64 0, .int .i64 0, .int .u8 0, .int .u8 0, .int .u8 0, .int .u8 0, .int .u8 0, .int .u8 0, .int .u8 0, .int .u8 0, .int .u8 0, .int .u8 0, .int .u8 0, .int .u8 0, .int .u8 0, .int .u8 0, .int .u8 0, .int .u8 0, .int .u8 0, .int .u8 0, .int .u8 0, .int .u8 0, .int .u8 0, .int .u8 0, .int .u8 0, .int .u8 0, .int .u8 0, .int .u8 0, .int .u8 0, .int .u8 0, .int .u8 0, .int .u8 0, .int .u8 0, .int .u8 0] 26)
    have HA := Lib.hid hA
    clear hA
    try dsimp only
    go_wp2_with (with_reducible refine wpList_store_st rfl 26 (.tmp 11) (.tmp 59) rfl (g := u11.heap.size) (off := 0) pC.cells rfl rfl HA.out FpC.out IpC.out OpC.out ?_; intro w9 h9; refine Hid.out ?_)
    refine Lib.hid ?_
    rw [MpC.out] at h9
    clear HX HA
    generalize u11.heap.size = n11 at *
    obtain ⟨v11, hv11⟩ : ∃ v, w9 = v := ⟨_, rfl⟩
    rw [hv11] at h9 ⊢
    clear hv11
    have HX := Lib.hid h9
    clear h9
    go_wp2_with (with_reducible refine wpList_load_st rfl 26 (.tmp 1) rfl (g := b) (off := 0) rfl HX.out (cs := s.cells) (t := 26) (fr := (0, 0)) (by simp) s.cells (fun j hj => by rw [Nat.zero_add]) _ Tryd.underlying26 rfl HMI.out ?_)
    refine (KG'.out _ _ HX.out).mono ?_
    rintro e w8 ⟨rfl, h8⟩
    obtain ⟨u13, hu13⟩ : ∃ u, w8 = u := ⟨_, rfl⟩
    rw [hu13] at h8 ⊢
    clear hu13 HX
    have HX := Lib.hid h8
    clear h8 KG'
    have hA := HX.out.alloc (.cells #[.int .i64 0, .int .i64 0, .int .u64 0, .int .i64 0, .int .u8 0, .int .u8 0, .int .u8 0, .int .u8 0, .int .u8 0, .int .u8 0, .int .u8 0, .int .u8 0, .int .u8 0, .int .u8 0, .int .u8 0, .int .u8 0, .int .u8 0, .int .u8 0, .int .u8 0, .int .u8 0, .int .u8 0, .int .u8 0, .int .u8 0, .int .u8 0, .int .u8 0, .int .u8 0, .int .u8 0, .int .u8 0, .int .u8 0, .int .u8 0, .int .u8 0, .int .u8 0, .int .u8 0, .int .u8 0, .int .u8 0, .int .u8 0] 26)
    have HA := Lib.hid hA
    clear hA
    try dsimp only
    go_wp2_with (with_reducible refine wpList_store_st rfl 26 (.tmp 13) (.tmp 64) rfl (g := u13.heap.size) (off := 0) pC.cells rfl rfl HA.out FpC.out IpC.out OpC.out ?_; intro w9 h9; refine Hid.out ?_)
    refine Lib.hid ?_
    rw [MpC.out] at h9
    clear HX HA
    generalize u13.heap.size = n13 at *
    obtain ⟨v13, hv13⟩ : ∃ v, w9 = v := ⟨_, rfl⟩
    rw [hv13] at h9 ⊢
    clear hv13
    have HX := Lib.hid h9
    clear h9
    go_wp2_with (with_reducible refine wpList_load_st rfl 26 (.tmp 1) rfl (g := b) (off := 0) rfl HX.out (cs := s.cells) (t := 26) (fr := (0, 0)) (by simp) s.cells (fun j hj => by rw [Nat.zero_add]) _ Tryd.underlying26 rfl HMI.out ?_)
    refine (KB.out _ _ HX.out).mono ?_
    rintro e w8 ⟨rfl, h8⟩
    obtain ⟨u15, hu15⟩ : ∃ u, w8 = u := ⟨_, rfl⟩
    rw [hu15] at h8 ⊢
    clear hu15 HX
    have HX := Lib.hid h8
    clear h8 KB
    have hA := HX.out.alloc (.cells #[.int .i64 0, .int .i64 0, .int .u64 0, .int .i64 0, .int .u8 0, .int .u8 0, .int .u8 0, .int .u8 0, .int .u8 0, .int .u8 0, .int .u8 0, .int .u8 0, .int .u8 0, .int .u8 0, .int .u8 0, .int .u8 0, .int .u8 0, .int .u8 0, .int .u8 0, .int .u8 0, .int .u8 0, .int .u8 0, .int .u8 0, .int .u8 0, .int .u8 0, .int .u8 0, .int .u8 0, .int .u8 0, .int .u8 0, .int .u8 0, .int .u8 0, .int .u8 0, .int .u8 0, .int .u8 0, .int .u8 0, .int .u8 0] 26)
    have HA := Lib.hid hA
    clear hA
    try dsimp only
    go_wp2_with (with_reducible refine wpList_store_st rfl 26 (.tmp 15) (.tmp 69) rfl (g := u15.heap.size) (off := 0) pD.cells rfl rfl HA.out FpD.out IpD.out OpD.out ?_; intro w9 h9; refine Hid.out ?_)
    refine Lib.hid ?_
    rw [MpD.out] at h9
    clear HX HA
    generalize u15.heap.size = n15 at *
    obtain ⟨v15, hv15⟩ : ∃ v, w9 = v := ⟨_, rfl⟩
    rw [hv15] at h9 ⊢
    clear hv15
    have HX := Lib.hid h9
    clear h9
    go_wp2_with (with_reducible refine wpList_load_st rfl 26 (.tmp 1) rfl (g := b) (off := 0) rfl HX.out (cs := s.cells) (t := 26) (fr := (0, 0)) (by simp) s.cells (fun j hj => by rw [Nat.zero_add]) _ Tryd.underlying26 rfl HMI.out ?_)
    refine (KB'.out _ _ HX.out).mono ?_
    rintro e w8 ⟨rfl, h8⟩
    obtain ⟨u17, hu17⟩ : ∃ u, w8 = u := ⟨_, rfl⟩
    rw [hu17] at h8 ⊢
    clear hu17 HX
    have HX := Lib.hid h8
    clear h8 KB'
    have hA := HX.out.alloc (.cells #[.int .i64 0, .int .i64 0, .int .u64 0, .int .i64 0, .int .u8 0, .int .u8 0, .int .u8 0, .int .u8 0, .int .u8 0, .int .u8 0, .int .u8 0, .int .u8 0, .int .u8 0, .int .u8 0, .int .u8 0, .int .u8 0, .int .u8 0, .int .u8 0, .int .u8 0, .int .u8 0, .int .u8 0, .int .u8 0, .int .u8 0, .int .u8 0, .int .u8 0, .int .u8 0, .int .u8 0, .int .u8 0, .int .u8 0, .int .u8 0, .int .u8 0, .int .u8 0, .int .u8 0, .int .u8 0, .int .u8 0, .int .u8 0] 26)
    have HA := Lib.hid hA
    clear hA
    try dsimp only
    go_wp2_with (with_reducible refine wpList_store_st rfl 26 (.tmp 17) (.tmp 74) rfl (g := u17.heap.size) (off := 0) pD.cells rfl rfl HA.out FpD.out IpD.out OpD.out ?_; intro w9 h9; refine Hid.out ?_)
    refine Lib.hid ?_
    rw [MpD.out] at h9
    clear HX HA
    generalize u17.heap.size = n17 at *
    obtain ⟨v17, hv17⟩ : ∃ v, w9 = v := ⟨_, rfl⟩
    rw [hv17] at h9 ⊢
    clear hv17
    have HX := Lib.hid h9
    clear h9
    have HF : Hid (Below W.heap.size W v17) := Lib.hid (HX.out.below (Le.refl _))
    go_wp2_with (first
      | (with_reducible refine wpList_load_st rfl 26 (.tmp 3) rfl (g := n3) (off := 0) rfl HX.out (cs := pA.cells) (t := 26) (fr := (0, 0)) (by simp) pA.cells (fun j hj => by rw [Nat.zero_add]) _ Tryd.underlying26 rfl IpA.out ?_)
      | (with_reducible refine wpList_load_st rfl 26 (.tmp 5) rfl (g := n5) (off := 0) rfl HX.out (cs := pA.cells) (t := 26) (fr := (0, 0)) (by simp) pA.cells (fun j hj => by rw [Nat.zero_add]) _ Tryd.underlying26 rfl IpA.out ?_)
      | (refine wpList_load_g (by rfl) 26 (.tmp 7) rfl (g := n7) (off := 0) rfl HX.out (cs := pB.cells) (t := 26) (fr := (0, 0)) (by simp) pB.cells (fun j hj => by rw [Nat.zero_add]) _ Tryd.underlying26 rfl IpB.out ?_)
      | (refine wpList_load_g (by rfl) 26 (.tmp 9) rfl (g := n9) (off := 0) rfl HX.out (cs := pB.cells) (t := 26) (fr := (0, 0)) (by simp) pB.cells (fun j hj => by rw [Nat.zero_add]) _ Tryd.underlying26 rfl IpB.out ?_)
      | (refine wpList_load_g (by rfl) 26 (.tmp 11) rfl (g := n11) (off := 0) rfl HX.out (cs := pC.cells) (t := 26) (fr := (0, 0)) (by simp) pC.cells (fun j hj => by rw [Nat.zero_add]) _ Tryd.underlying26 rfl IpC.out ?_)
      | (refine wpList_load_g (by rfl) 26 (.tmp 13) rfl (g := n13) (off := 0) rfl HX.out (cs := pC.cells) (t := 26) (fr := (0, 0)) (by simp) pC.cells (fun j hj => by rw [Nat.zero_add]) _ Tryd.underlying26 rfl IpC.out ?_)
      | (refine wpList_load_g (by rfl) 26 (.tmp 15) rfl (g := n15) (off := 0) rfl HX.out (cs := pD.cells) (t := 26) (fr := (0, 0)) (by simp) pD.cells (fun j hj => by rw [Nat.zero_add]) _ Tryd.underlying26 rfl IpD.out ?_)
      | (refine wpList_load_g (by rfl) 26 (.tmp 17) rfl (g := n17) (off := 0) rfl HX.out (cs := pD.cells) (t := 26) (fr := (0, 0)) (by simp) pD.cells (fun j hj => by rw [Nat.zero_add]) _ Tryd.underlying26 rfl IpD.out ?_))
    go_ret
    exact ⟨rfl, HF.out⟩

end Go.Proofs.YtpjfmgifddoppaaDoor
