/- order: a span's entry, done by a copy: case 2. order: a span's entry, done by a copy: case 3. -/
import Derived.Test.YtnjnooeldkideaaDoorMOrDl
import Derived.OwnWalk
namespace Go.Proofs.YtnjnooeldkideaaDoor
section
set_option linter.unusedVariables false
set_option linter.unusedSimpArgs false
open Go.RowKit Go.Lib Go.Deep
section
variable {W w : World} {J : Nat → Option Obj} {t : Tb} {F : List (Nat × Obj)}
variable {m : Md} {gm n c : Nat} {A : Option Addr} {ns : List ByteArray} {Ln : List (Nat × Obj)}
set_option maxRecDepth 100000 in
set_option maxHeartbeats 8000000 in
theorem o_place2 (tb : Go.Proofs.YtnjnooeldkideaaDoor.TB W J) (mo : MOk J m ns A n c Ln) (x : Sp) (xok : x.Ok) (hs : x.call.name.size ≤ 1000000) (hLn : ∀ p ∈ Ln, p ∈ F) (h : St W w J F) (hm : (gm, Obj.cells (m.cells (.slice A n c)) 71 (0, 0)) ∈ F) (hup : decide (0 < x.upto) = true) (her : x.rep.err = 0) :
  Calls Tryd.prog 36 #[.pointer (some ⟨gm, 0, none⟩), x.val] w (PlPost W J F ns n (placeM m ns x) m) := by
 have hst : storeOf x = 0 := by unfold storeOf; rw [her]; simp
 have h1 := h.alloc (.cells x.cells 40)
 obtain ⟨g, hg⟩ : ∃ g, w.heap.size = g := ⟨_, rfl⟩
 rw [hg] at h1
 have h1' := (h1.alloc (.cells Tryd.zeroCells38 38))
 rw [World.size_alloc, hg] at h1'
 have xa := h1.spAt xok (List.mem_cons_self ..)
 have e0 := xa.serial; have e2 := xa.upto; have er3 := xa.call; have e8 := xa.err
 have fs := fun (v : World) (X : List (Nat × Obj)) (hv : St W v J X) (hx : (g, Obj.cells x.cells 40 (0, 0)) ∈ X) => (⟨⟨(hv.spAt xok hx).upto, (hv.spAt xok hx).err, (hv.spAt xok hx).call⟩, (hv.spAt xok hx).rep⟩ : (v.cell? ⟨g, 2, none⟩ = some (.int .i64 x.upto) ∧ v.cell? ⟨g, 8, none⟩ = some (.int .i64 x.rep.err) ∧ v.rangeAt g 3 x.call.cells.toList) ∧ v.rangeAt g 8 x.rep.cells.toList)
 have b0ok : (⟨1, x.serial, x.call, zRy, 0, 0, 0, zS⟩ : En).Ok := plEn_ok xok zRy_ok (by decide) (by decide)
 have sb0 : -9223372036854775808 ≤ storeOf x := (storeOf_b xok).1
 have sb1 : storeOf x ≤ 9223372036854775807 := (storeOf_b xok).2
 have b1ok : (⟨1, x.serial, x.call, zRy, storeOf x, 0, 0, zS⟩ : En).Ok := plEn_ok xok zRy_ok sb0 sb1
 have rok : (replyM m ns x.call (storeOf x)).1.Ok := replyM_ok mo x.call xok.call _ sb0 sb1
 have fok : (⟨1, x.serial, x.call, (replyM m ns x.call (storeOf x)).1, storeOf x, 0, 0, zS⟩ : En).Ok := plEn_ok xok rok sb0 sb1
 have bz := run_build_pl x.serial x.call
 have bsz := En.size b0ok; have bai := en_info b0ok; have bao := En.one (⟨1, x.serial, x.call, zRy, 0, 0, 0, zS⟩ : En)
 have p87 : setMany (⟨1, x.serial, x.call, zRy, 0, 0, 0, zS⟩ : En).cells 87 [.int .i64 (storeOf x)] = (⟨1, x.serial, x.call, zRy, storeOf x, 0, 0, zS⟩ : En).cells := En.put_store b0ok (storeOf x)
 have pf : setMany (⟨1, x.serial, x.call, zRy, storeOf x, 0, 0, zS⟩ : En).cells 7 (replyM m ns x.call (storeOf x)).1.cells.toList = (⟨1, x.serial, x.call, (replyM m ns x.call (storeOf x)).1, storeOf x, 0, 0, zS⟩ : En).cells := En.put_rep b1ok _ rok
 have b1sz := En.size b1ok
 have c87 : (⟨1, x.serial, x.call, zRy, 0, 0, 0, zS⟩ : En).cells[87]? = some (.int .i64 0) := En.gt b0ok 0
 have d87 : (⟨1, x.serial, x.call, zRy, storeOf x, 0, 0, zS⟩ : En).cells[87]? = some (.int .i64 (storeOf x)) := En.gt b1ok 0
 have fai := en_info fok
 have qi := cl_info x.call
 have rai := ry_info rok.t; have rao := Ry.one (replyM m ns x.call (storeOf x)).1; have rsz := Ry.size rok.t
 have xri := ry_info xok.rep.t
 have heq := run_eq_ry (replyM m ns x.call (storeOf x)).1 x.rep rok xok.rep
 have kr := fun (v : World) (X : List (Nat × Obj)) (hv : St W v J X) (hF : ∀ p ∈ Ln, p ∈ X) (hx : (gm, Obj.cells (m.cells (.slice A n c)) 71 (0, 0)) ∈ X) => o_reply tb mo x.call xok.call hs (storeOf x) sb0 sb1 hF hv hx
 have ky := fun (v : World) (X : List (Nat × Obj)) (hv : St W v J X) (hF : ∀ p ∈ Ln, p ∈ X) (hx : (gm, Obj.cells (m.cells (.slice A n c)) 71 (0, 0)) ∈ X) => o_copy mo hF hv hx
 have kd := fun (g7 : Nat) (A7 : Option Addr) (c7 : Nat) (L7 : List (Nat × Obj)) (mo7 : MOk J m ns A7 n c7 L7) (v : World) (X : List (Nat × Obj)) (hF : ∀ p ∈ L7, p ∈ X) (hv : St W v J ((g7, .cells (m.cells (.slice A7 n c7)) 71 (0, 0)) :: X)) => o_do tb mo7 (⟨1, x.serial, x.call, (replyM m ns x.call (storeOf x)).1, storeOf x, 0, 0, zS⟩ : En) fok hs hF hv
 have hD : placeM m ns x = if (replyM m ns x.call (storeOf x)).2 = true ∧ (decide (0 < x.upto) = true → eqRy (replyM m ns x.call (storeOf x)).1 x.rep = true) then doM m ns (⟨1, x.serial, x.call, (replyM m ns x.call (storeOf x)).1, storeOf x, 0, 0, zS⟩ : En) else none := rfl
 generalize placeM m ns x = RES at *
 have fin0 : RES = none → ∀ (v : World) (X : List (Nat × Obj)), St W v J (X ++ F) → PlPost W J F ns n RES m (.returned (.pointer none)) v := fun hn v X hv => by
  rw [hn]
  exact ⟨rfl, hv.weaken⟩
 have fin1 : ∀ m', RES = some m' → ∀ (v : World) (g7 : Nat) (A7 : Option Addr) (c7 : Nat) (L7 D : List (Nat × Obj)), MOk J m ns A7 n c7 L7 → doM m ns (⟨1, x.serial, x.call, (replyM m ns x.call (storeOf x)).1, storeOf x, 0, 0, zS⟩ : En) = some m' → St W v J ((g7, .cells (m'.cells (.slice A7 n c7)) 71 (0, 0)) :: (L7 ++ (D ++ F))) → PlPost W J F ns n RES m (.returned (.pointer (some ⟨g7, 0, none⟩))) v := fun m' hn v g7 A7 c7 L7 D mo7 hdo hv => by
  rw [hn]
  exact ⟨g7, A7, c7, L7, rfl, mo7, hv.keep D (fun i a => by simp only [List.count_append, List.count_cons, List.count_nil]; omega)⟩
 obtain ⟨up, hupx⟩ : ∃ y, x.upto = y := ⟨_, rfl⟩
 obtain ⟨er, herx⟩ : ∃ y, x.rep.err = y := ⟨_, rfl⟩
 have HD : Hid (RES = if (replyM m ns x.call (storeOf x)).2 = true ∧ (decide (0 < up) = true → eqRy (replyM m ns x.call (storeOf x)).1 x.rep = true) then doM m ns (⟨1, x.serial, x.call, (replyM m ns x.call (storeOf x)).1, storeOf x, 0, 0, zS⟩ : En) else none) := Lib.hid (by rw [← hupx]; exact hD)
 rw [hupx] at e2 fs hup
 rw [herx] at e8 fs her
 unfold Sp.val
 unfold En.val Cl.val at *
 obtain ⟨SX, hSX⟩ : ∃ y, x.cells = y := ⟨_, rfl⟩
 obtain ⟨B0, hB0⟩ : ∃ y, (⟨1, x.serial, x.call, zRy, 0, 0, 0, zS⟩ : En).cells = y := ⟨_, rfl⟩
 obtain ⟨B1, hB1⟩ : ∃ y, (⟨1, x.serial, x.call, zRy, storeOf x, 0, 0, zS⟩ : En).cells = y := ⟨_, rfl⟩
 obtain ⟨FX, hFX⟩ : ∃ y, (⟨1, x.serial, x.call, (replyM m ns x.call (storeOf x)).1, storeOf x, 0, 0, zS⟩ : En).cells = y := ⟨_, rfl⟩
 obtain ⟨cc, hcc⟩ : ∃ y, x.call.cells = y := ⟨_, rfl⟩
 obtain ⟨XR, hXR⟩ : ∃ y, x.rep.cells = y := ⟨_, rfl⟩
 obtain ⟨RR, hRR⟩ : ∃ y, (replyM m ns x.call (storeOf x)).1.cells = y := ⟨_, rfl⟩
 obtain ⟨ob, hob⟩ : ∃ y, (replyM m ns x.call (storeOf x)).2 = y := ⟨_, rfl⟩
 obtain ⟨rb, hrb⟩ : ∃ y, eqRy (replyM m ns x.call (storeOf x)).1 x.rep = y := ⟨_, rfl⟩
 rw [hSX] at h1 h1' e0 e2 er3 e8 fs ⊢
 rw [hB0] at bz bsz bai bao p87 c87
 rw [hB1] at p87 pf b1sz d87
 rw [hFX] at pf fai kd
 rw [hcc] at er3 bz qi kr fs
 rw [hXR] at fs xri heq
 rw [hRR] at pf rai rao rsz heq kr
 rw [hrb] at heq
 rw [hob] at kr
 have HD : Hid (RES = if ob = true ∧ (decide (0 < up) = true → rb = true) then doM m ns (⟨1, x.serial, x.call, (replyM m ns x.call (storeOf x)).1, storeOf x, 0, 0, zS⟩ : En) else none) := Lib.hid (by rw [← hob, ← hrb]; exact HD.out)
 rw [hup] at HD
 have bfit : 0 + B0.size ≤ Tryd.zeroCells38.size := by rw [bsz, zent]; omega
 have bmany : setMany Tryd.zeroCells38 0 B0.toList = B0 := by rw [setMany_whole _ _ (by rw [Array.length_toList, bsz, zent]), Array.toArray_toList]
 have rfit : 0 + RR.size ≤ Tryd.zeroCells36.size := by rw [rsz, zry]; omega
 have rmany : setMany Tryd.zeroCells36 0 RR.toList = RR := by rw [setMany_whole _ _ (by rw [Array.length_toList, rsz, zry]), Array.toArray_toList]
 have l87 : 87 < B0.size := by rw [bsz]; omega
 have f7 : 7 + RR.size ≤ B1.size := by rw [rsz, b1sz]; omega
 have I3 : Hid ((Tryd.prog.info? 34).map (·.size) = some 1) := Lib.hid (by kernel_rfl)
 have H1 := Lib.hid h1'; have HBZ := Lib.hid bz; have BAI := Lib.hid bai; have BAO := Lib.hid bao; have BFIT := Lib.hid bfit; have BMANY := Lib.hid bmany; have QI := Lib.hid qi; have RI := Lib.hid rai; have RO := Lib.hid rao; have RFIT := Lib.hid rfit; have RMANY := Lib.hid rmany; have XRI := Lib.hid xri; have FI := Lib.hid fai
 have ER3 := Lib.hid er3; have FSx := Lib.hid fs; have KR := Lib.hid kr; have KY := Lib.hid ky; have KD := Lib.hid kd; have FIN0 := Lib.hid fin0; have FIN1 := Lib.hid fin1; have P87 := Lib.hid p87; have PF := Lib.hid pf; have C87 := Lib.hid c87; have D87 := Lib.hid d87; have L87 := Lib.hid l87; have F7 := Lib.hid f7; have HLN := Lib.hid hLn; have HM := Lib.hid hm; have HST := Lib.hid hst
 clear h1 h1' h bz bai bao bfit bmany qi rai rao rfit rmany xri fai er3 fs kr ky kd fin0 fin1 p87 pf c87 d87 l87 f7 hLn hm hst xa b0ok b1ok fok rok bsz b1sz rsz hD hupx herx hSX hB0 hB1 hFX hcc hXR hRR hob hrb xok mo tb hs sb0 sb1
 go_enter Tryd.func36, Tryd.ntmps36
 go_wp2_with (first | (with_reducible refine wpList_load_midg 12 rfl (by kernel_rfl) 24 (.tmp 11) rfl g 3 rfl cc _ ER3.out Tryd.underlying24 rfl QI.out ?_) | (with_reducible refine wpList_build_go rfl 38 _ rfl _ ?_ (HBZ.out _) ?_; · go_simp) | (with_reducible refine wpList_store_st rfl 38 (.tmp 5) (.tmp 13) rfl (g := g + 1) (off := 0) B0 rfl rfl H1.out BFIT.out BAI.out BAO.out ?_; intro w2 h2; refine Hid.out ?_))
 refine Lib.hid ?_
 rw [BMANY.out] at h2
 obtain ⟨⟨c2, c8, r3⟩, -⟩ := FSx.out _ _ h2 (by simp)
 have e01 : B0 = B1 := by have q := P87.out; rw [HST.out, setMany_same B0 87 _ C87.out] at q; exact q
 rw [e01] at h2
 have H3 := Lib.hid h2
 clear h2 H1
 have K4 := Lib.hid (KR.out _ _ H3.out (fun p hp => by simp [HLN.out p hp]) (by simp [HM.out]))
 have ch : w2.cell? ⟨g + 1, 87, none⟩ = some (.int .i64 (storeOf x)) := (H3.out.cell (g := g + 1) (cs := B1) (t := 38) (fr := (0, 0)) (List.mem_cons_self ..) 87).trans D87.out
 obtain ⟨-, -, r3'⟩ := (FSx.out _ _ H3.out (by simp)).1
 have R3 := Lib.hid r3'
 clear r3' KR
 go_wp2_with ((with_reducible refine wpList_load_midg 36 rfl (by kernel_rfl) 24 (.tmp 35) rfl g 3 rfl cc _ R3.out Tryd.underlying24 rfl QI.out ?_))
 refine K4.out.mono ?_
 rintro e w4 ⟨rfl, h4⟩
 have c2' := (FSx.out _ _ h4 (by simp)).1.1
 have H4 := Lib.hid (h4.alloc (.cells Tryd.zeroCells36 36))
 clear h4 H3 K4 R3 ch
 go_wp2_with (with_reducible refine wpList_store_st rfl 36 (.tmp 6) (.tmp 40) rfl (g := w4.heap.size) (off := 0) RR rfl rfl H4.out RFIT.out RI.out RO.out ?_; intro w5 h5; refine Hid.out ?_)
 refine Lib.hid ?_
 rw [RMANY.out] at h5
 obtain ⟨b6, hb6⟩ : ∃ y, w4.heap.size = y := ⟨_, rfl⟩
 rw [hb6] at h5 ⊢
 have c2'' := (FSx.out _ _ h5 (by simp)).1.1
 clear hb6 c2'
 have RX7 := Lib.hid (FSx.out _ _ h5 (by simp)).2
 have R6 : Hid (w5.rangeAt b6 0 RR.toList) := Lib.hid (fun j u hj => by rw [Nat.zero_add, h5.cell (g := b6) (cs := RR) (t := 36) (fr := (0, 0)) (List.mem_cons_self ..) j]; simpa using hj)
 have H5 := Lib.hid h5
 clear h5 H4
 cases ob with
 | false =>
  go_wp2_with fail
  go_ret
  exact FIN0.out (by rw [HD.out]; simp) _ [(b6, .cells RR 36 (0, 0)), (g + 1, .cells B1 38 (0, 0)), (g, .cells SX 40 (0, 0))] H5.out
 | true =>
  cases rb with
  | false =>
   go_wp2_with (first | (with_reducible refine wpList_load_midg 49 rfl (by kernel_rfl) 36 (.tmp 6) rfl b6 0 rfl RR _ R6.out Tryd.underlying36 rfl RI.out ?_) | (with_reducible refine wpList_load_midg 51 rfl (by kernel_rfl) 36 (.tmp 50) rfl g 8 rfl XR _ RX7.out Tryd.underlying36 rfl XRI.out ?_))
   go_ret
   exact FIN0.out (by rw [HD.out]; simp) _ [(b6, .cells RR 36 (0, 0)), (g + 1, .cells B1 38 (0, 0)), (g, .cells SX 40 (0, 0))] H5.out
  | true =>
   have HD2 : Hid (RES = doM m ns (⟨1, x.serial, x.call, (replyM m ns x.call (storeOf x)).1, storeOf x, 0, 0, zS⟩ : En)) := Lib.hid (by rw [HD.out]; simp)
   have H5E := Lib.hid (H5.out.perm (L' := (g + 1, .cells B1 38 (0, 0)) :: (b6, .cells RR 36 (0, 0)) :: (g, .cells SX 40 (0, 0)) :: F) (perm_count (fun i a => by simp only [List.count_append, List.count_cons, List.count_nil]; omega)))
   clear HD
   go_wp2_with (first | (with_reducible refine wpList_load_midg 49 rfl (by kernel_rfl) 36 (.tmp 6) rfl b6 0 rfl RR _ R6.out Tryd.underlying36 rfl RI.out ?_) | (with_reducible refine wpList_load_midg 51 rfl (by kernel_rfl) 36 (.tmp 50) rfl g 8 rfl XR _ RX7.out Tryd.underlying36 rfl XRI.out ?_) | (with_reducible refine wpList_load_midg 55 rfl (by kernel_rfl) 36 (.tmp 6) rfl b6 0 rfl RR _ R6.out Tryd.underlying36 rfl RI.out ?_) | (with_reducible refine wpList_store_st rfl 36 (.tmp 56) (.tmp 55) rfl (g := g + 1) (off := 7) RR rfl rfl H5E.out F7.out RI.out RO.out ?_; intro w6 h6; refine Hid.out ?_))
   refine Lib.hid ?_
   rw [PF.out] at h6
   have KY2 := Lib.hid (KY.out _ _ h6 (fun p hp => by simp [HLN.out p hp]) (by simp [HM.out]))
   clear H5 H5E R6 RX7 h6
   go_wp2_with fail
   refine KY2.out.mono ?_
   rintro e w7 ⟨g7, A7, c7, L7, rfl, mo7, h7⟩
   have RE : Hid (w7.rangeAt (g + 1) 0 FX.toList) := Lib.hid (fun j u hj => by rw [Nat.zero_add, h7.cell (g := g + 1) (cs := FX) (t := 38) (fr := (0, 0)) (by simp) j]; simpa using hj)
   have KD2 := Lib.hid (KD.out _ _ _ _ mo7 _ _ (fun p hp => by simp [hp]) h7)
   clear KY2 h7
   go_wp2_with (with_reducible refine wpList_load_midg 60 rfl (by kernel_rfl) 38 (.tmp 5) rfl (g + 1) 0 rfl FX _ RE.out Tryd.underlying38 rfl FI.out ?_)
   refine KD2.out.mono ?_
   rintro e w8 ⟨rfl, h8⟩
   have H8 := Lib.hid h8; have MO7 := Lib.hid mo7
   clear h8 mo7 KD2 RE
   cases hdo : doM m ns (⟨1, x.serial, x.call, (replyM m ns x.call (storeOf x)).1, storeOf x, 0, 0, zS⟩ : En) with
   | none =>
    have hq := H8.out
    rw [hdo, Option.getD_none] at hq
    have H9 := Lib.hid hq
    have hres : Hid (RES = none) := Lib.hid (by rw [HD2.out, hdo])
    clear hq H8 hdo HD2
    simp only [Option.isSome_none]
    go_wp2_with fail
    go_ret
    exact FIN0.out hres.out _ ((g7, .cells (m.cells (.slice A7 n c7)) 71 (0, 0)) :: (L7 ++ [(g + 1, .cells FX 38 (0, 0)), (b6, .cells RR 36 (0, 0)), (g, .cells SX 40 (0, 0))])) (St.perm H9.out (perm_count (fun i a => by simp only [List.count_append, List.count_cons, List.count_nil]; omega)))
   | some m' =>
    have hq := H8.out
    rw [hdo] at hq
    rw [Option.getD_some] at hq
    have hres : RES = some m' := by rw [HD2.out, hdo]
    have HF := Lib.hid (FIN1.out m' hres _ g7 A7 c7 L7 [(g + 1, .cells FX 38 (0, 0)), (b6, .cells RR 36 (0, 0)), (g, .cells SX 40 (0, 0))] MO7.out hdo (St.perm hq (perm_count (fun i a => by simp only [List.count_append, List.count_cons, List.count_nil]; omega))))
    clear hq H8 hdo HD2 hres
    simp only [Option.isSome_some]
    go_wp2_with fail
    go_ret
    exact HF.out
end
end

section
set_option linter.unusedVariables false
set_option linter.unusedSimpArgs false
open Go.RowKit Go.Lib Go.Deep
section
variable {W w : World} {J : Nat → Option Obj} {t : Tb} {F : List (Nat × Obj)}
variable {m : Md} {gm n c : Nat} {A : Option Addr} {ns : List ByteArray} {Ln : List (Nat × Obj)}
set_option maxRecDepth 100000 in
set_option maxHeartbeats 8000000 in
theorem o_place3 (tb : Go.Proofs.YtnjnooeldkideaaDoor.TB W J) (mo : MOk J m ns A n c Ln) (x : Sp) (xok : x.Ok) (hs : x.call.name.size ≤ 1000000) (hLn : ∀ p ∈ Ln, p ∈ F) (h : St W w J F) (hm : (gm, Obj.cells (m.cells (.slice A n c)) 71 (0, 0)) ∈ F) (hup : decide (0 < x.upto) = true) (her : (x.rep.err != 0) = true) (hke : keptB x.rep.err = false) :
  Calls Tryd.prog 36 #[.pointer (some ⟨gm, 0, none⟩), x.val] w (PlPost W J F ns n (placeM m ns x) m) := by
 have hst : storeOf x = 0 := by unfold storeOf; rw [hke]; simp
 have h1 := h.alloc (.cells x.cells 40)
 obtain ⟨g, hg⟩ : ∃ g, w.heap.size = g := ⟨_, rfl⟩
 rw [hg] at h1
 have h1' := (h1.alloc (.cells Tryd.zeroCells38 38))
 rw [World.size_alloc, hg] at h1'
 have xa := h1.spAt xok (List.mem_cons_self ..)
 have e0 := xa.serial; have e2 := xa.upto; have er3 := xa.call; have e8 := xa.err
 have fs := fun (v : World) (X : List (Nat × Obj)) (hv : St W v J X) (hx : (g, Obj.cells x.cells 40 (0, 0)) ∈ X) => (⟨⟨(hv.spAt xok hx).upto, (hv.spAt xok hx).err, (hv.spAt xok hx).call⟩, (hv.spAt xok hx).rep⟩ : (v.cell? ⟨g, 2, none⟩ = some (.int .i64 x.upto) ∧ v.cell? ⟨g, 8, none⟩ = some (.int .i64 x.rep.err) ∧ v.rangeAt g 3 x.call.cells.toList) ∧ v.rangeAt g 8 x.rep.cells.toList)
 have b0ok : (⟨1, x.serial, x.call, zRy, 0, 0, 0, zS⟩ : En).Ok := plEn_ok xok zRy_ok (by decide) (by decide)
 have sb0 : -9223372036854775808 ≤ storeOf x := (storeOf_b xok).1
 have sb1 : storeOf x ≤ 9223372036854775807 := (storeOf_b xok).2
 have b1ok : (⟨1, x.serial, x.call, zRy, storeOf x, 0, 0, zS⟩ : En).Ok := plEn_ok xok zRy_ok sb0 sb1
 have rok : (replyM m ns x.call (storeOf x)).1.Ok := replyM_ok mo x.call xok.call _ sb0 sb1
 have fok : (⟨1, x.serial, x.call, (replyM m ns x.call (storeOf x)).1, storeOf x, 0, 0, zS⟩ : En).Ok := plEn_ok xok rok sb0 sb1
 have bz := run_build_pl x.serial x.call
 have bsz := En.size b0ok; have bai := en_info b0ok; have bao := En.one (⟨1, x.serial, x.call, zRy, 0, 0, 0, zS⟩ : En)
 have p87 : setMany (⟨1, x.serial, x.call, zRy, 0, 0, 0, zS⟩ : En).cells 87 [.int .i64 (storeOf x)] = (⟨1, x.serial, x.call, zRy, storeOf x, 0, 0, zS⟩ : En).cells := En.put_store b0ok (storeOf x)
 have pf : setMany (⟨1, x.serial, x.call, zRy, storeOf x, 0, 0, zS⟩ : En).cells 7 (replyM m ns x.call (storeOf x)).1.cells.toList = (⟨1, x.serial, x.call, (replyM m ns x.call (storeOf x)).1, storeOf x, 0, 0, zS⟩ : En).cells := En.put_rep b1ok _ rok
 have b1sz := En.size b1ok
 have c87 : (⟨1, x.serial, x.call, zRy, 0, 0, 0, zS⟩ : En).cells[87]? = some (.int .i64 0) := En.gt b0ok 0
 have d87 : (⟨1, x.serial, x.call, zRy, storeOf x, 0, 0, zS⟩ : En).cells[87]? = some (.int .i64 (storeOf x)) := En.gt b1ok 0
 have fai := en_info fok
 have qi := cl_info x.call
 have rai := ry_info rok.t; have rao := Ry.one (replyM m ns x.call (storeOf x)).1; have rsz := Ry.size rok.t
 have xri := ry_info xok.rep.t
 have heq := run_eq_ry (replyM m ns x.call (storeOf x)).1 x.rep rok xok.rep
 have kr := fun (v : World) (X : List (Nat × Obj)) (hv : St W v J X) (hF : ∀ p ∈ Ln, p ∈ X) (hx : (gm, Obj.cells (m.cells (.slice A n c)) 71 (0, 0)) ∈ X) => o_reply tb mo x.call xok.call hs (storeOf x) sb0 sb1 hF hv hx
 have ky := fun (v : World) (X : List (Nat × Obj)) (hv : St W v J X) (hF : ∀ p ∈ Ln, p ∈ X) (hx : (gm, Obj.cells (m.cells (.slice A n c)) 71 (0, 0)) ∈ X) => o_copy mo hF hv hx
 have kd := fun (g7 : Nat) (A7 : Option Addr) (c7 : Nat) (L7 : List (Nat × Obj)) (mo7 : MOk J m ns A7 n c7 L7) (v : World) (X : List (Nat × Obj)) (hF : ∀ p ∈ L7, p ∈ X) (hv : St W v J ((g7, .cells (m.cells (.slice A7 n c7)) 71 (0, 0)) :: X)) => o_do tb mo7 (⟨1, x.serial, x.call, (replyM m ns x.call (storeOf x)).1, storeOf x, 0, 0, zS⟩ : En) fok hs hF hv
 have hD : placeM m ns x = if (replyM m ns x.call (storeOf x)).2 = true ∧ (decide (0 < x.upto) = true → eqRy (replyM m ns x.call (storeOf x)).1 x.rep = true) then doM m ns (⟨1, x.serial, x.call, (replyM m ns x.call (storeOf x)).1, storeOf x, 0, 0, zS⟩ : En) else none := rfl
 generalize placeM m ns x = RES at *
 have fin0 : RES = none → ∀ (v : World) (X : List (Nat × Obj)), St W v J (X ++ F) → PlPost W J F ns n RES m (.returned (.pointer none)) v := fun hn v X hv => by
  rw [hn]
  exact ⟨rfl, hv.weaken⟩
 have fin1 : ∀ m', RES = some m' → ∀ (v : World) (g7 : Nat) (A7 : Option Addr) (c7 : Nat) (L7 D : List (Nat × Obj)), MOk J m ns A7 n c7 L7 → doM m ns (⟨1, x.serial, x.call, (replyM m ns x.call (storeOf x)).1, storeOf x, 0, 0, zS⟩ : En) = some m' → St W v J ((g7, .cells (m'.cells (.slice A7 n c7)) 71 (0, 0)) :: (L7 ++ (D ++ F))) → PlPost W J F ns n RES m (.returned (.pointer (some ⟨g7, 0, none⟩))) v := fun m' hn v g7 A7 c7 L7 D mo7 hdo hv => by
  rw [hn]
  exact ⟨g7, A7, c7, L7, rfl, mo7, hv.keep D (fun i a => by simp only [List.count_append, List.count_cons, List.count_nil]; omega)⟩
 obtain ⟨up, hupx⟩ : ∃ y, x.upto = y := ⟨_, rfl⟩
 obtain ⟨er, herx⟩ : ∃ y, x.rep.err = y := ⟨_, rfl⟩
 have HD : Hid (RES = if (replyM m ns x.call (storeOf x)).2 = true ∧ (decide (0 < up) = true → eqRy (replyM m ns x.call (storeOf x)).1 x.rep = true) then doM m ns (⟨1, x.serial, x.call, (replyM m ns x.call (storeOf x)).1, storeOf x, 0, 0, zS⟩ : En) else none) := Lib.hid (by rw [← hupx]; exact hD)
 rw [hupx] at e2 fs hup
 rw [herx] at e8 fs her hke
 unfold Sp.val
 unfold En.val Cl.val at *
 obtain ⟨SX, hSX⟩ : ∃ y, x.cells = y := ⟨_, rfl⟩
 obtain ⟨B0, hB0⟩ : ∃ y, (⟨1, x.serial, x.call, zRy, 0, 0, 0, zS⟩ : En).cells = y := ⟨_, rfl⟩
 obtain ⟨B1, hB1⟩ : ∃ y, (⟨1, x.serial, x.call, zRy, storeOf x, 0, 0, zS⟩ : En).cells = y := ⟨_, rfl⟩
 obtain ⟨FX, hFX⟩ : ∃ y, (⟨1, x.serial, x.call, (replyM m ns x.call (storeOf x)).1, storeOf x, 0, 0, zS⟩ : En).cells = y := ⟨_, rfl⟩
 obtain ⟨cc, hcc⟩ : ∃ y, x.call.cells = y := ⟨_, rfl⟩
 obtain ⟨XR, hXR⟩ : ∃ y, x.rep.cells = y := ⟨_, rfl⟩
 obtain ⟨RR, hRR⟩ : ∃ y, (replyM m ns x.call (storeOf x)).1.cells = y := ⟨_, rfl⟩
 obtain ⟨ob, hob⟩ : ∃ y, (replyM m ns x.call (storeOf x)).2 = y := ⟨_, rfl⟩
 obtain ⟨rb, hrb⟩ : ∃ y, eqRy (replyM m ns x.call (storeOf x)).1 x.rep = y := ⟨_, rfl⟩
 rw [hSX] at h1 h1' e0 e2 er3 e8 fs ⊢
 rw [hB0] at bz bsz bai bao p87 c87
 rw [hB1] at p87 pf b1sz d87
 rw [hFX] at pf fai kd
 rw [hcc] at er3 bz qi kr fs
 rw [hXR] at fs xri heq
 rw [hRR] at pf rai rao rsz heq kr
 rw [hrb] at heq
 rw [hob] at kr
 have HD : Hid (RES = if ob = true ∧ (decide (0 < up) = true → rb = true) then doM m ns (⟨1, x.serial, x.call, (replyM m ns x.call (storeOf x)).1, storeOf x, 0, 0, zS⟩ : En) else none) := Lib.hid (by rw [← hob, ← hrb]; exact HD.out)
 rw [hup] at HD
 have bfit : 0 + B0.size ≤ Tryd.zeroCells38.size := by rw [bsz, zent]; omega
 have bmany : setMany Tryd.zeroCells38 0 B0.toList = B0 := by rw [setMany_whole _ _ (by rw [Array.length_toList, bsz, zent]), Array.toArray_toList]
 have rfit : 0 + RR.size ≤ Tryd.zeroCells36.size := by rw [rsz, zry]; omega
 have rmany : setMany Tryd.zeroCells36 0 RR.toList = RR := by rw [setMany_whole _ _ (by rw [Array.length_toList, rsz, zry]), Array.toArray_toList]
 have l87 : 87 < B0.size := by rw [bsz]; omega
 have f7 : 7 + RR.size ≤ B1.size := by rw [rsz, b1sz]; omega
 have I3 : Hid ((Tryd.prog.info? 34).map (·.size) = some 1) := Lib.hid (by kernel_rfl)
 have H1 := Lib.hid h1'; have HBZ := Lib.hid bz; have BAI := Lib.hid bai; have BAO := Lib.hid bao; have BFIT := Lib.hid bfit; have BMANY := Lib.hid bmany; have QI := Lib.hid qi; have RI := Lib.hid rai; have RO := Lib.hid rao; have RFIT := Lib.hid rfit; have RMANY := Lib.hid rmany; have XRI := Lib.hid xri; have FI := Lib.hid fai
 have ER3 := Lib.hid er3; have FSx := Lib.hid fs; have KR := Lib.hid kr; have KY := Lib.hid ky; have KD := Lib.hid kd; have FIN0 := Lib.hid fin0; have FIN1 := Lib.hid fin1; have P87 := Lib.hid p87; have PF := Lib.hid pf; have C87 := Lib.hid c87; have D87 := Lib.hid d87; have L87 := Lib.hid l87; have F7 := Lib.hid f7; have HLN := Lib.hid hLn; have HM := Lib.hid hm; have HST := Lib.hid hst
 clear h1 h1' h bz bai bao bfit bmany qi rai rao rfit rmany xri fai er3 fs kr ky kd fin0 fin1 p87 pf c87 d87 l87 f7 hLn hm hst xa b0ok b1ok fok rok bsz b1sz rsz hD hupx herx hSX hB0 hB1 hFX hcc hXR hRR hob hrb xok mo tb hs sb0 sb1
 go_enter Tryd.func36, Tryd.ntmps36
 go_wp2_with (first | (with_reducible refine wpList_load_midg 12 rfl (by kernel_rfl) 24 (.tmp 11) rfl g 3 rfl cc _ ER3.out Tryd.underlying24 rfl QI.out ?_) | (with_reducible refine wpList_build_go rfl 38 _ rfl _ ?_ (HBZ.out _) ?_; · go_simp) | (with_reducible refine wpList_store_st rfl 38 (.tmp 5) (.tmp 13) rfl (g := g + 1) (off := 0) B0 rfl rfl H1.out BFIT.out BAI.out BAO.out ?_; intro w2 h2; refine Hid.out ?_))
 refine Lib.hid ?_
 rw [BMANY.out] at h2
 obtain ⟨⟨c2, c8, r3⟩, -⟩ := FSx.out _ _ h2 (by simp)
 have e01 : B0 = B1 := by have q := P87.out; rw [HST.out, setMany_same B0 87 _ C87.out] at q; exact q
 rw [e01] at h2
 have H3 := Lib.hid h2
 clear h2 H1
 have HKE := Lib.hid hke
 clear hke
 have K4 := Lib.hid (KR.out _ _ H3.out (fun p hp => by simp [HLN.out p hp]) (by simp [HM.out]))
 have ch : w2.cell? ⟨g + 1, 87, none⟩ = some (.int .i64 (storeOf x)) := (H3.out.cell (g := g + 1) (cs := B1) (t := 38) (fr := (0, 0)) (List.mem_cons_self ..) 87).trans D87.out
 obtain ⟨-, -, r3'⟩ := (FSx.out _ _ H3.out (by simp)).1
 have R3 := Lib.hid r3'
 clear r3' KR
 go_wp2_with (first | (go_at_call 47; (with_reducible refine (o_kept _ _).mono ?_); rintro e wq ⟨rfl, rfl⟩; rw [HKE.out]) | (with_reducible refine wpList_load_midg 36 rfl (by kernel_rfl) 24 (.tmp 35) rfl g 3 rfl cc _ R3.out Tryd.underlying24 rfl QI.out ?_))
 refine K4.out.mono ?_
 rintro e w4 ⟨rfl, h4⟩
 have c2' := (FSx.out _ _ h4 (by simp)).1.1
 have H4 := Lib.hid (h4.alloc (.cells Tryd.zeroCells36 36))
 clear h4 H3 K4 R3 ch
 go_wp2_with (with_reducible refine wpList_store_st rfl 36 (.tmp 6) (.tmp 40) rfl (g := w4.heap.size) (off := 0) RR rfl rfl H4.out RFIT.out RI.out RO.out ?_; intro w5 h5; refine Hid.out ?_)
 refine Lib.hid ?_
 rw [RMANY.out] at h5
 obtain ⟨b6, hb6⟩ : ∃ y, w4.heap.size = y := ⟨_, rfl⟩
 rw [hb6] at h5 ⊢
 have c2'' := (FSx.out _ _ h5 (by simp)).1.1
 clear hb6 c2'
 have RX7 := Lib.hid (FSx.out _ _ h5 (by simp)).2
 have R6 : Hid (w5.rangeAt b6 0 RR.toList) := Lib.hid (fun j u hj => by rw [Nat.zero_add, h5.cell (g := b6) (cs := RR) (t := 36) (fr := (0, 0)) (List.mem_cons_self ..) j]; simpa using hj)
 have H5 := Lib.hid h5
 clear h5 H4
 cases ob with
 | false =>
  go_wp2_with fail
  go_ret
  exact FIN0.out (by rw [HD.out]; simp) _ [(b6, .cells RR 36 (0, 0)), (g + 1, .cells B1 38 (0, 0)), (g, .cells SX 40 (0, 0))] H5.out
 | true =>
  cases rb with
  | false =>
   go_wp2_with (first | (with_reducible refine wpList_load_midg 49 rfl (by kernel_rfl) 36 (.tmp 6) rfl b6 0 rfl RR _ R6.out Tryd.underlying36 rfl RI.out ?_) | (with_reducible refine wpList_load_midg 51 rfl (by kernel_rfl) 36 (.tmp 50) rfl g 8 rfl XR _ RX7.out Tryd.underlying36 rfl XRI.out ?_))
   go_ret
   exact FIN0.out (by rw [HD.out]; simp) _ [(b6, .cells RR 36 (0, 0)), (g + 1, .cells B1 38 (0, 0)), (g, .cells SX 40 (0, 0))] H5.out
  | true =>
   have HD2 : Hid (RES = doM m ns (⟨1, x.serial, x.call, (replyM m ns x.call (storeOf x)).1, storeOf x, 0, 0, zS⟩ : En)) := Lib.hid (by rw [HD.out]; simp)
   have H5E := Lib.hid (H5.out.perm (L' := (g + 1, .cells B1 38 (0, 0)) :: (b6, .cells RR 36 (0, 0)) :: (g, .cells SX 40 (0, 0)) :: F) (perm_count (fun i a => by simp only [List.count_append, List.count_cons, List.count_nil]; omega)))
   clear HD
   go_wp2_with (first | (with_reducible refine wpList_load_midg 49 rfl (by kernel_rfl) 36 (.tmp 6) rfl b6 0 rfl RR _ R6.out Tryd.underlying36 rfl RI.out ?_) | (with_reducible refine wpList_load_midg 51 rfl (by kernel_rfl) 36 (.tmp 50) rfl g 8 rfl XR _ RX7.out Tryd.underlying36 rfl XRI.out ?_) | (with_reducible refine wpList_load_midg 55 rfl (by kernel_rfl) 36 (.tmp 6) rfl b6 0 rfl RR _ R6.out Tryd.underlying36 rfl RI.out ?_) | (with_reducible refine wpList_store_st rfl 36 (.tmp 56) (.tmp 55) rfl (g := g + 1) (off := 7) RR rfl rfl H5E.out F7.out RI.out RO.out ?_; intro w6 h6; refine Hid.out ?_))
   refine Lib.hid ?_
   rw [PF.out] at h6
   have KY2 := Lib.hid (KY.out _ _ h6 (fun p hp => by simp [HLN.out p hp]) (by simp [HM.out]))
   clear H5 H5E R6 RX7 h6
   go_wp2_with fail
   refine KY2.out.mono ?_
   rintro e w7 ⟨g7, A7, c7, L7, rfl, mo7, h7⟩
   have RE : Hid (w7.rangeAt (g + 1) 0 FX.toList) := Lib.hid (fun j u hj => by rw [Nat.zero_add, h7.cell (g := g + 1) (cs := FX) (t := 38) (fr := (0, 0)) (by simp) j]; simpa using hj)
   have KD2 := Lib.hid (KD.out _ _ _ _ mo7 _ _ (fun p hp => by simp [hp]) h7)
   clear KY2 h7
   go_wp2_with (with_reducible refine wpList_load_midg 60 rfl (by kernel_rfl) 38 (.tmp 5) rfl (g + 1) 0 rfl FX _ RE.out Tryd.underlying38 rfl FI.out ?_)
   refine KD2.out.mono ?_
   rintro e w8 ⟨rfl, h8⟩
   have H8 := Lib.hid h8; have MO7 := Lib.hid mo7
   clear h8 mo7 KD2 RE
   cases hdo : doM m ns (⟨1, x.serial, x.call, (replyM m ns x.call (storeOf x)).1, storeOf x, 0, 0, zS⟩ : En) with
   | none =>
    have hq := H8.out
    rw [hdo, Option.getD_none] at hq
    have H9 := Lib.hid hq
    have hres : Hid (RES = none) := Lib.hid (by rw [HD2.out, hdo])
    clear hq H8 hdo HD2
    simp only [Option.isSome_none]
    go_wp2_with fail
    go_ret
    exact FIN0.out hres.out _ ((g7, .cells (m.cells (.slice A7 n c7)) 71 (0, 0)) :: (L7 ++ [(g + 1, .cells FX 38 (0, 0)), (b6, .cells RR 36 (0, 0)), (g, .cells SX 40 (0, 0))])) (St.perm H9.out (perm_count (fun i a => by simp only [List.count_append, List.count_cons, List.count_nil]; omega)))
   | some m' =>
    have hq := H8.out
    rw [hdo] at hq
    rw [Option.getD_some] at hq
    have hres : RES = some m' := by rw [HD2.out, hdo]
    have HF := Lib.hid (FIN1.out m' hres _ g7 A7 c7 L7 [(g + 1, .cells FX 38 (0, 0)), (b6, .cells RR 36 (0, 0)), (g, .cells SX 40 (0, 0))] MO7.out hdo (St.perm hq (perm_count (fun i a => by simp only [List.count_append, List.count_cons, List.count_nil]; omega))))
    clear hq H8 hdo HD2 hres
    simp only [Option.isSome_some]
    go_wp2_with fail
    go_ret
    exact HF.out
end
end
end Go.Proofs.YtnjnooeldkideaaDoor
