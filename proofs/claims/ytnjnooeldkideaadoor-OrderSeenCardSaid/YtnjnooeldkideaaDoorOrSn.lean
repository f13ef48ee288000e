/- order: the law OrderSeen. -/
import Derived.Test.YtnjnooeldkideaaDoorOrTw
import Derived.Test.YtnjnooeldkideaaDoorOrSe
import Derived.OwnWalk
namespace Go.Proofs.YtnjnooeldkideaaDoor
set_option linter.unusedVariables false
set_option linter.unusedSimpArgs false
open Go.RowKit Go.Lib Go.Deep
section
variable {W w : World}
theorem hy_put {t : Tb} (ok : t.Ok) {nv lv sv v : Value} {tries : Int} : setMany (hyCells t nv tries lv sv) 78 [v] = hyCells t nv tries lv v := by
 show (hyCells t nv tries lv sv).setIfInBounds 78 v = _
 exact hy_set ok nv tries lv sv v
theorem moreL_take (n : Int) : ∀ (ss : List Sp) (i k : Nat) (x : Sp), ss[k]? = some x → moreL n (ss.take (k + 1)) i = moreL n (ss.take k) i ++ [moreS n (i + k) x]
 | [], i, k, x, h => by simp at h
 | s :: ss, i, 0, x, h => by
  simp only [List.getElem?_cons_zero, Option.some.injEq] at h
  subst h
  rfl
 | s :: ss, i, k + 1, x, h => by
  have := moreL_take n ss (i + 1) k x (by simpa using h)
  rw [List.take_succ_cons, moreL, this, List.take_succ_cons, moreL, List.cons_append, show i + 1 + k = i + (k + 1) by omega]
theorem modS_ok {x : Sp} (ok : x.Ok) : (modS x).Ok := { ok with t0 := by show -9223372036854775808 ≤ (0 : Int); decide, t1 := by show (0 : Int) ≤ 9223372036854775807; decide, rep := zRy_ok }
theorem moreS_ok (n : Int) (i : Nat) {x : Sp} (ok : x.Ok) : (moreS n i x).Ok := by
 unfold moreS; split
 ·exact modS_ok ok
 ·exact ok
theorem mod_cells {x : Sp} (ok : x.Ok) : setMany (setMany x.cells 2 [.int .i64 0]) 8 zRy.cells.toList = (modS x).cells := by
 have e1 : setMany x.cells 2 [.int .i64 0] = (⟨x.serial, x.frm, 0, x.call, x.rep⟩ : Sp).cells := rfl
 rw [e1]
 have := setMany_mid ([Value.int .i64 x.serial, .int .i64 x.frm, .int .i64 0] ++ x.call.cells.toList) x.rep.cells.toList zRy.cells.toList [] (by rw [Array.length_toList, Array.length_toList, Ry.size ok.rep.t, Ry.size zRy_ok.t])
 have hl : ([Value.int .i64 x.serial, .int .i64 x.frm, .int .i64 0] ++ x.call.cells.toList).length = 8 := rfl
 rw [hl] at this
 simp only [List.append_nil, List.append_assoc] at this
 exact this
set_option maxRecDepth 100000 in
set_option maxHeartbeats 16000000 in
theorem walk_orderSeen (W : World) (tabs : Tabs W) {H : Type} {enc : TypeId × Value → H} {v0 v1 : Value} (a0 : Arg enc Tryd.prog W 45 v0) (a1 : Arg enc Tryd.prog W 3 v1) :
  Calls Tryd.prog 4 #[v0, v1] W fun e w' => e = .returned (.bool true) ∧ Below W.heap.size W w' := by
 obtain ⟨x, rfl⟩ := Arg.history a0
 obtain ⟨n, rfl, hn⟩ := a1.int Tryd.underlying3
 obtain ⟨hn0, hn1⟩ := wf_i64 hn
 have tb := Go.Proofs.YtnjnooeldkideaaDoor.TB.start tabs
 have h1 := (St.start W).alloc (.cells x.cells 45)
 have fin : ∀ (v : World) (L : List (Nat × Obj)), St W v (fun b => W.heap[b]?) L → Below W.heap.size W v := fun v L hv => hv.below (Le.refl _)
 have FIN := Lib.hid fin
 clear fin
 obtain ⟨g, hg⟩ : ∃ g, W.heap.size = g := ⟨_, rfl⟩
 rw [hg] at h1
 have kA := fun (v : World) (L : List (Nat × Obj)) (hv : St W v (fun b => W.heap[b]?) L) => law_alive tb hv
 have kT := fun (v : World) (L : List (Nat × Obj)) (hv : St W v (fun b => W.heap[b]?) L) => law_too (nc := x.nc) (lc := x.lc) (pc := x.pc) x.tok x.tries 5 x.nrd (by simp) x.erd (by simp) x.srd (by simp) (by have := x.nl; unfold maxLen at this; omega) (by have := x.el; unfold maxLen at this; omega) (by have := x.sl; unfold maxLen at this; omega) (fun e he => (x.epre e he).fit) (fun e he => (x.spre e he).fit) hv
 have hat := fun (v : World) (L : List (Nat × Obj)) (hv : St W v (fun b => W.heap[b]?) L) (hx : (g, Obj.cells x.cells 45 (0, 0)) ∈ L) => (⟨(hv.hy x.tok hx).all, (hv.hy x.tok hx).log, (hv.hy x.tok hx).spans⟩ : v.rangeAt g 0 x.cells.toList ∧ v.cell? ⟨g, 77, none⟩ = some (.slice x.lA x.es.length x.lc) ∧ v.cell? ⟨g, 78, none⟩ = some (.slice x.pA x.ss.length x.pc))
 have hin := hy_info x
 change ∀ (v : World) (L : List (Nat × Obj)), _ → Calls _ _ #[.agg x.cells, _] v _ at kT
 obtain ⟨R, hR⟩ : ∃ R, tooB x.t x.nms x.es x.ss 5 = R := ⟨_, rfl⟩
 rw [hR] at kT
 have hone : x.cells.all (·.oneCell') = true := hy_one x.t (.slice x.nA x.nms.length x.nc) x.tries (.slice x.lA x.es.length x.lc) (.slice x.pA x.ss.length x.pc) rfl rfl rfl
 have hsz : x.cells.size = 79 := hy_size x.tok _ _ _ _
 have hfit : 0 + x.cells.size ≤ Tryd.zeroCells45.size := by rw [hsz, zhis]; omega
 have hmany : setMany Tryd.zeroCells45 0 x.cells.toList = x.cells := by rw [setMany_whole _ _ (by rw [Array.length_toList, hsz, zhis]), Array.toArray_toList]
 have hnil : setMany x.cells 78 [.slice none 0 0] = hyCells x.t (.slice x.nA x.nms.length x.nc) x.tries (.slice x.lA x.es.length x.lc) (.slice none 0 0) := hy_put x.tok
 have kC := fun (hR0 : R = false) (v : World) (L : List (Nat × Obj)) (hv : St W v (fun b => W.heap[b]?) L) => o_check (nc := x.nc) (lc := x.lc) (pc := x.pc) tb x.tries (x.ok (hR.trans hR0) (by decide) L) hv
 have kF := fun (hR0 : R = false) (v : World) (L : List (Nat × Obj)) (hv : St W v (fun b => W.heap[b]?) L) => o_find (nc := x.nc) (lc := x.lc) (pc := x.pc) tb x.tries (x.ok (hR.trans hR0) (by decide) L) hv
 change ∀ (hR0 : R = false) (v : World) (L : List (Nat × Obj)), _ → Calls _ _ #[.agg x.cells] v _ at kC
 change ∀ (hR0 : R = false) (v : World) (L : List (Nat × Obj)), _ → Calls _ _ #[.agg x.cells] v _ at kF
 have law := fun (hR0 : R = false) (hc : checkM x.t x.nms x.tries x.es x.ss = 0) => seen_find hc (by
  have h := hR.trans hR0
  unfold tooB at h
  simp only [Bool.or_eq_false_iff, decide_eq_false_iff_not] at h
  have := h.2.1
  omega) n
 have lens := fun (hR0 : R = false) => (⟨(x.ok (hR.trans hR0) (by decide) []).efew, (x.ok (hR.trans hR0) (by decide) []).sfew⟩ : x.es.length ≤ 100 ∧ x.ss.length ≤ 100)
 obtain ⟨CK, hCK⟩ : ∃ y, checkM x.t x.nms x.tries x.es x.ss = y := ⟨_, rfl⟩
 obtain ⟨FD, hFD⟩ : ∃ y, findM x.t x.nms x.tries x.es x.ss = y := ⟨_, rfl⟩
 rw [hCK] at kC law
 rw [hFD] at kF law
 obtain ⟨HX, hHX⟩ : ∃ y, x.cells = y := ⟨_, rfl⟩
 rw [hHX] at h1 kT kC kF hat hin hone hsz hfit hmany hnil ⊢
 obtain ⟨NS, hNS⟩ : ∃ y, x.ss.length = y := ⟨_, rfl⟩
 obtain ⟨NE, hNE⟩ : ∃ y, x.es.length = y := ⟨_, rfl⟩
 rw [hNS] at hat lens
 rw [hNE] at hat lens
 have KA := Lib.hid kA; have KT := Lib.hid kT; have KC := Lib.hid kC; have KF := Lib.hid kF; have LAW := Lib.hid law; have LENS := Lib.hid lens; have HAT := Lib.hid hat; have HIN := Lib.hid hin; have HR := Lib.hid hR; have HHX := Lib.hid hHX; have HNS := Lib.hid hNS; have HNE := Lib.hid hNE; have H1 := Lib.hid h1; have HONE := Lib.hid hone; have HSZ := Lib.hid hsz; have HFIT := Lib.hid hfit; have HMANY := Lib.hid hmany; have HNIL := Lib.hid hnil; have HN0 := Lib.hid hn0; have HN1 := Lib.hid hn1; have TB0 := Lib.hid tb
 clear hone hfit hmany hnil hsz kA kT kC kF law lens hat hin hR hHX hNS hNE h1 a0 a1 hn tb tabs hCK hFD
 go_enter Tryd.func4, Tryd.ntmps4
 go_wp2_with fail
 refine (KA.out _ _ H1.out).mono ?_
 rintro e w2 ⟨rfl, h2⟩
 have qall := (HAT.out _ _ h2 (List.mem_cons_self ..)).1
 have QA := Lib.hid qall; have H2 := Lib.hid h2
 clear qall h2 H1
 go_wp2_with (with_reducible refine wpList_load_midg 13 rfl (by kernel_rfl) 45 (.tmp 2) rfl g 0 rfl HX _ QA.out Tryd.underlying45 rfl HIN.out ?_)
 refine (KT.out _ _ H2.out).mono ?_
 rintro e w3 ⟨rfl, h3⟩
 have qall := (HAT.out _ _ h3 (List.mem_cons_self ..)).1
 have H3 := Lib.hid h3
 clear h3 QA H2
 have QA := Lib.hid qall
 clear qall
 cases R with
 | true =>
  go_wp2_with fail
  go_ret
  exact ⟨rfl, FIN.out _ _ H3.out⟩
 | false =>
  go_wp2_with (with_reducible refine wpList_load_midg 16 rfl (by kernel_rfl) 45 (.tmp 2) rfl g 0 rfl HX _ QA.out Tryd.underlying45 rfl HIN.out ?_)
  refine (KC.out trivial _ _ H3.out).mono ?_
  rintro e w4 ⟨rfl, h4⟩
  obtain ⟨-, q77, q78⟩ := HAT.out _ _ h4 (List.mem_cons_self ..)
  have H4 := Lib.hid h4
  clear h4 QA H3
  by_cases hck : CK = 0
  ·have HCK := Lib.hid hck
   have bck : (CK != 0) = false := by simpa using hck
   clear hck
   obtain ⟨hle, hls⟩ := LENS.out trivial
   go_wp2_with fail
   clear q77 q78
   go_loopw [5, 23] (fun v5 v23 wr => ∃ k : Nat, v5 = .int .i64 ((endsOf (x.es.take k)).length : Int) ∧ v23 = .int .i64 (k : Int) ∧ k ≤ NE ∧ St W wr (fun b => W.heap[b]?) [(g, .cells HX 45 (0, 0))]) (fun _ v23 _ => NE - (intOf v23).toNat)
   case atStart => exact ⟨0, rfl, rfl, by omega, H4.out⟩
   case round =>
    obtain ⟨k, rfl, rfl, hk, hst⟩ := hrel
    clear H4
    by_cases hkl : k < NE
    ·obtain ⟨y, hy⟩ : ∃ o, x.es[k]? = some o := ⟨_, List.getElem?_eq_getElem (by rw [HNE.out]; exact hkl)⟩
     have okh := x.ok HR.out (by decide) []
     obtain ⟨Le, hre, hle2⟩ := okh.en
     obtain ⟨b, off, hA, hr⟩ := hre.en wr _ hst (fun p hp => by have := hle2 p hp; simp at this) k y hy
     have yok := okh.eok y (List.mem_of_getElem? hy)
     have xi := en_info yok
     have xsz := En.size yok
     have xo := En.one y
     have h2 := hst.alloc (.cells Tryd.zeroCells38 38)
     have hnext := endsOf_take x.es k y hy
     have hkind : ∀ (v : World) (X : List (Nat × Obj)) (b' : Nat), St W v (fun b => W.heap[b]?) X → (b', Obj.cells y.cells 38 (0, 0)) ∈ X → v.cell? ⟨b', 0, none⟩ = some (.int .i64 y.kind) := fun v X b' hv hm => (hv.en yok hm).kind
     have helen : (endsOf (x.es.take k)).length ≤ 100 := by
      have q1 : (endsOf (x.es.take k)).length ≤ (x.es.take k).length := List.length_filter_le _ _
      have q2 : (x.es.take k).length ≤ k := by rw [List.length_take]; omega
      omega
     generalize endsOf (x.es.take k) = fs at *
     obtain ⟨fl, hfln⟩ : ∃ y, fs.length = y := ⟨_, rfl⟩
     rw [hfln] at helen ⊢
     obtain ⟨kd, hkd⟩ : ∃ z, y.kind = z := ⟨_, rfl⟩
     rw [hkd] at hkind hnext
     obtain ⟨X, hX⟩ : ∃ X, y.cells = X := ⟨_, rfl⟩
     rw [hX] at hr xi xsz xo hkind
     have xfit : 0 + X.size ≤ Tryd.zeroCells38.size := by rw [xsz, zent]; omega
     have xmany : setMany Tryd.zeroCells38 0 X.toList = X := by rw [setMany_whole _ _ (by rw [Array.length_toList, xsz, zent]), Array.toArray_toList]
     have HR2 := Lib.hid hr; have XI := Lib.hid xi; have XO := Lib.hid xo; have XF := Lib.hid xfit; have XM := Lib.hid xmany; have H2 := Lib.hid h2; have HNX := Lib.hid hnext; have HKD := Lib.hid hkind; have HFLN := Lib.hid hfln
     clear hst hr xi xo xsz xfit xmany h2 hnext hkind yok hy hX hkd hle2 hre hfln okh
     rw [hA]
     clear hA
     go_wp2_with (first | (with_reducible refine wpList_load_midg 26 rfl (by kernel_rfl) 38 (.tmp 25) rfl b (off + k * 126) rfl X _ HR2.out Tryd.underlying38 rfl XI.out ?_) | (with_reducible refine wpList_store_st rfl 38 (.tmp 7) (.tmp 26) rfl (g := wr.heap.size) (off := 0) X rfl rfl H2.out XF.out XI.out XO.out ?_; intro w5 h5; refine Hid.out ?_))
     refine Lib.hid ?_
     rw [XM.out] at h5
     obtain ⟨gx, hgx⟩ : ∃ y, wr.heap.size = y := ⟨_, rfl⟩
     rw [hgx] at h5 ⊢
     have c0 := HKD.out _ _ gx h5 (List.mem_cons_self ..)
     have H5 := Lib.hid h5
     clear h5 H2 HR2 hgx HKD
     by_cases h2k : kd = 2
     ·subst h2k
      have HN2 := Lib.hid (show (endsOf (x.es.take (k + 1))).length = fl + 1 by rw [HNX.out, if_pos rfl, List.length_append, HFLN.out]; rfl)
      clear HNX
      go_wp2_with fail
      go_roundw
      case rel => exact ⟨k + 1, by rw [HN2.out]; go_num, by go_num, by omega, H5.out.weaken (A := [_])⟩
      case measure => simp [intOf]; omega
     ·have b2 : (kd == 2) = false := by simpa using h2k
      have HN2 := Lib.hid (show (endsOf (x.es.take (k + 1))).length = fl by rw [HNX.out, if_neg h2k, HFLN.out])
      clear HNX
      go_wp2_with fail
      go_roundw
      case rel => exact ⟨k + 1, by rw [HN2.out], by go_num, by omega, H5.out.weaken (A := [_])⟩
      case measure => simp [intOf]; omega
    ·obtain rfl : k = NE := by omega
     have hel : (endsOf x.es).length ≤ 100 := by
      have q1 : (endsOf x.es).length ≤ x.es.length := List.length_filter_le _ _
      rw [HNE.out] at q1
      omega
     have hlaw := LAW.out trivial HCK.out
     rw [show x.es.take k = x.es by rw [← HNE.out, List.take_length]]
     obtain ⟨en, hen⟩ : ∃ y, (endsOf x.es).length = y := ⟨_, rfl⟩
     rw [hen] at hel hlaw ⊢
     have HLAW := Lib.hid hlaw
     obtain ⟨qall, -, q78⟩ := HAT.out _ _ hst (List.mem_cons_self ..)
     have QA := Lib.hid qall; have Q78 := Lib.hid q78; have HST := Lib.hid hst
     clear hlaw hst hen qall q78
     by_cases h3 : 3 < en
     ·have b3 : decide ((en : Int) > 3) = true := by simp; omega
      obtain rfl : FD = 264 := HLAW.out.1 h3
      go_wp2_with (with_reducible refine wpList_load_midg 35 rfl (by kernel_rfl) 45 (.tmp 2) rfl g 0 rfl HX _ QA.out Tryd.underlying45 rfl HIN.out ?_)
      refine (KF.out trivial _ _ HST.out).mono ?_
      rintro e w5 ⟨rfl, h5⟩
      have H5 := Lib.hid h5
      clear h5
      go_wp2_with fail
      go_ret
      exact ⟨rfl, FIN.out _ _ H5.out⟩
     ·have b3 : decide ((en : Int) > 3) = false := by simp; omega
      obtain ⟨hfd, hfm⟩ := HLAW.out.2 (by omega)
      subst hfd
      have HFM := Lib.hid hfm
      clear hfm HLAW
      go_wp2_with (with_reducible refine wpList_load_midg 38 rfl (by kernel_rfl) 45 (.tmp 2) rfl g 0 rfl HX _ QA.out Tryd.underlying45 rfl HIN.out ?_)
      refine (KF.out trivial _ _ HST.out).mono ?_
      rintro e w5 ⟨rfl, h5⟩
      have h6 := h5.alloc (.cells Tryd.zeroCells45 45)
      have qall := (HAT.out _ _ h6 (by simp)).1
      clear QA
      have QA := Lib.hid ((HAT.out _ _ h5 (by simp)).1); have H6 := Lib.hid h6
      clear h5 h6 HST qall
      go_wp2_with (first | (with_reducible refine wpList_load_midg 41 rfl (by kernel_rfl) 45 (.tmp 2) rfl g 0 rfl HX _ QA.out Tryd.underlying45 rfl HIN.out ?_) | (with_reducible refine wpList_store_st rfl 45 (.tmp 8) (.tmp 41) rfl (g := w5.heap.size) (off := 0) HX rfl rfl H6.out HFIT.out HIN.out HONE.out ?_; intro w6 h7; refine Hid.out ?_))
      refine Lib.hid ?_
      rw [HMANY.out] at h7
      obtain ⟨gb, hgb⟩ : ∃ y, w5.heap.size = y := ⟨_, rfl⟩
      rw [hgb] at h7 ⊢
      have H7 := Lib.hid h7
      have I1 : Hid ((Tryd.prog.info? 42).map (·.size) = some 1) := Lib.hid (by kernel_rfl)
      have l78 : Hid (78 < HX.size) := Lib.hid (by rw [HSZ.out]; omega)
      clear h7 H6 QA hgb
      go_wp2_with (with_reducible refine wpList_store_one rfl 42 (.tmp 42) (.const (.slice none 0 0)) rfl (g := gb) (off := 78) (.slice none 0 0) rfl rfl rfl H7.out l78.out I1.out rfl ?_; intro w7 h8; refine Hid.out ?_)
      refine Lib.hid ?_
      rw [HNIL.out] at h8
      obtain ⟨-, -, q78⟩ := HAT.out _ _ h8 (by simp)
      have H8 := Lib.hid h8
      clear h8 H7
      go_wp2_with fail
      clear q78
      go_loopw [46] (fun v wr => ∃ (k : Nat) (B : Option Addr) (c' : Nat) (L' : List (Nat × Obj)), v = .int .i64 (k : Int) ∧ k ≤ NS ∧ Row 40 88 (.slice B k c') k (spRows (moreL n (x.ss.take k) 0)).flatten L' ∧ St W wr (fun b => W.heap[b]?) ((gb, .cells (hyCells x.t (.slice x.nA x.nms.length x.nc) x.tries (.slice x.lA x.es.length x.lc) (.slice B k c')) 45 (0, 0)) :: (L' ++ [(g, .cells HX 45 (0, 0))]))) (fun v _ => NS - (intOf v).toNat)
      case atStart => exact ⟨0, none, 0, [], rfl, by omega, Row.nil _ _, H8.out⟩
      case round =>
       obtain ⟨k, B, c', L', rfl, hk, hrow, hst⟩ := hrel
       clear H8
       by_cases hkl : k < NS
       ·obtain ⟨y, hy⟩ : ∃ o, x.ss[k]? = some o := ⟨_, List.getElem?_eq_getElem (by rw [HNS.out]; exact hkl)⟩
        have okh := x.ok HR.out (by decide) []
        obtain ⟨Le, hre, hle2⟩ := okh.sp
        obtain ⟨b, off, hA, hr⟩ := hre.sp wr _ hst (fun p hp => by have := hle2 p hp; simp at this) k y hy
        have yok := okh.sok y (List.mem_of_getElem? hy)
        have xi := sp_info yok
        have xsz := Sp.size yok
        have xo := Sp.one y
        have mok := moreS_ok n (0 + k) yok
        have yi := sp_info mok
        have ysz := Sp.size mok
        have yo := Sp.one (moreS n (0 + k) y)
        have h2 := hst.alloc (.cells Tryd.zeroCells40 40)
        have hnext := moreL_take n x.ss 0 k y hy
        have hup : ∀ (v : World) (X : List (Nat × Obj)) (b' : Nat), St W v (fun b => W.heap[b]?) X → (b', Obj.cells y.cells 40 (0, 0)) ∈ X → v.cell? ⟨b', 2, none⟩ = some (.int .i64 y.upto) := fun v X b' hv hm => (hv.spAt yok hm).upto
        have hfl : (spRows (moreL n (x.ss.take k) 0)).flatten ++ (moreS n (0 + k) y).cells.toList = (spRows (moreL n (x.ss.take (k + 1)) 0)).flatten := by rw [hnext]; simp [spRows]
        have hy0 : ¬ ((k : Int) = n ∧ 0 < y.upto) → (moreS n (0 + k) y).cells = y.cells := fun h => by unfold moreS; rw [Nat.zero_add, if_neg h]
        have hy1 : ((k : Int) = n ∧ 0 < y.upto) → setMany (setMany y.cells 2 [.int .i64 0]) 8 zRy.cells.toList = (moreS n (0 + k) y).cells := fun h => by unfold moreS; rw [Nat.zero_add, if_pos h]; exact mod_cells yok
        obtain ⟨FL, hFL⟩ : ∃ y, (spRows (moreL n (x.ss.take k) 0)).flatten = y := ⟨_, rfl⟩
        rw [hFL] at hrow hfl
        obtain ⟨ML, hML⟩ : ∃ y, moreL n (x.ss.take (k + 1)) 0 = y := ⟨_, rfl⟩
        rw [hML] at hfl
        obtain ⟨up, hupx⟩ : ∃ z, y.upto = z := ⟨_, rfl⟩
        rw [hupx] at hup hy0 hy1
        obtain ⟨X, hX⟩ : ∃ X, y.cells = X := ⟨_, rfl⟩
        rw [hX] at hr xi xsz xo hup hy0 hy1
        obtain ⟨Y, hY⟩ : ∃ X, (moreS n (0 + k) y).cells = X := ⟨_, rfl⟩
        rw [hY] at yi ysz yo hfl hy0 hy1
        have xfit : 0 + X.size ≤ Tryd.zeroCells40.size := by rw [xsz, zspan]; omega
        have xmany : setMany Tryd.zeroCells40 0 X.toList = X := by rw [setMany_whole _ _ (by rw [Array.length_toList, xsz, zspan]), Array.toArray_toList]
        have yone : ∀ u ∈ Y.toList, u.oneCell' = true := by
         have q := yo
         rw [← Array.all_toList] at q
         exact fun u hu => List.all_eq_true.1 q u hu
        have HR2 := Lib.hid hr; have XI := Lib.hid xi; have XO := Lib.hid xo; have XF := Lib.hid xfit; have XM := Lib.hid xmany; have H2 := Lib.hid h2; have MT := Lib.hid hML; have HUP := Lib.hid hup; have YFL := Lib.hid hfl; have HROW := Lib.hid hrow; have YONE := Lib.hid yone; have XSZ := Lib.hid xsz; have YSZ := Lib.hid ysz; have YI := Lib.hid yi; have HY0 := Lib.hid hy0; have HY1 := Lib.hid hy1; have HAA := Lib.hid hA
        clear hst hr xi xo xsz xfit xmany h2 hnext hup hfl hrow yone yok mok hy hX hY hupx hle2 hre hFL hML okh yi ysz yo hy0 hy1
        rw [HAA.out]
        go_wp2_with (first | (with_reducible refine wpList_load_midg 50 rfl (by kernel_rfl) 40 (.tmp 49) rfl b (off + k * 88) rfl X _ HR2.out Tryd.underlying40 rfl XI.out ?_) | (with_reducible refine wpList_store_st rfl 40 (.tmp 10) (.tmp 50) rfl (g := wr.heap.size) (off := 0) X rfl rfl H2.out XF.out XI.out XO.out ?_; intro w3 h3; refine Hid.out ?_))
        refine Lib.hid ?_
        rw [XM.out] at h3
        obtain ⟨gx, hgx⟩ : ∃ y, wr.heap.size = y := ⟨_, rfl⟩
        rw [hgx] at h3 ⊢
        have c2 := HUP.out _ _ gx h3 (List.mem_cons_self ..)
        have H3 := Lib.hid h3
        clear h3 H2 HR2 hgx HUP
        by_cases hq : (k : Int) = n ∧ 0 < up
        ·obtain ⟨hq1, hq2⟩ := hq
         have b1 : ((k : Int) == n) = true := by simpa using hq1
         have b2 : decide (up > 0) = true := by simpa using hq2
         have QY := Lib.hid (HY1.out ⟨hq1, hq2⟩)
         have I3 : Hid ((Tryd.prog.info? 3).map (·.size) = some 1) := Lib.hid (by kernel_rfl)
         have l2 : Hid (2 < X.size) := Lib.hid (by rw [XSZ.out]; omega)
         clear hq1 hq2 HY0 HY1
         go_wp2_with (with_reducible refine wpList_store_one rfl 3 (.tmp 59) (.const (.int .i64 0)) rfl (g := gx) (off := 2) (.int .i64 0) rfl rfl rfl H3.out l2.out I3.out rfl ?_; intro w4 h4; refine Hid.out ?_)
         refine Lib.hid ?_
         obtain ⟨X2, hX2⟩ : ∃ y, setMany X 2 [.int .i64 0] = y := ⟨_, rfl⟩
         have x2sz : X2.size = 88 := by rw [← hX2, setMany_size, XSZ.out]
         have bz := run_build_zry
         have zi := ry_info zRy_ok.t; have zo := Ry.one zRy; have zsz := Ry.size zRy_ok.t
         have QZ := Lib.hid (show setMany X2 8 zRy.cells.toList = Y by rw [← hX2]; exact QY.out)
         rw [hX2] at h4
         obtain ⟨ZR, hZR⟩ : ∃ y, zRy.cells = y := ⟨_, rfl⟩
         rw [hZR] at bz zi zo zsz QZ
         have zfit : 8 + ZR.size ≤ X2.size := by rw [zsz, x2sz]; omega
         have BZ := Lib.hid bz; have ZI := Lib.hid zi; have ZO := Lib.hid zo; have ZF := Lib.hid zfit; have H4 := Lib.hid h4
         clear bz zi zo zfit h4 H3 hZR hX2 x2sz zsz QY c2
         go_wp2_with (first | (with_reducible refine wpList_build_go rfl 36 _ rfl _ ?_ (BZ.out _) ?_; · go_simp) | (with_reducible refine wpList_store_st rfl 36 (.tmp 61) (.tmp 60) rfl (g := gx) (off := 8) ZR rfl rfl H4.out ZF.out ZI.out ZO.out ?_; intro w5 h5; refine Hid.out ?_))
         refine Lib.hid ?_
         rw [QZ.out] at h5
         have H3 := Lib.hid h5
         clear H4
         obtain ⟨QX, hQX⟩ : ∃ y, hyCells x.t (.slice x.nA x.nms.length x.nc) x.tries (.slice x.lA x.es.length x.lc) (.slice B k c') = y := ⟨_, rfl⟩
         rw [hQX] at h5
         have RX : Hid (w5.rangeAt gx 0 Y.toList) := Lib.hid (fun i u hi => by rw [Nat.zero_add, h5.cell (g := gx) (cs := Y) (t := 40) (fr := (0, 0)) (by simp) i]; simpa using hi)
         have c78 : w5.cell? ⟨gb, 78, none⟩ = some (.slice B k c') := (h5.cell (g := gb) (cs := QX) (t := 45) (fr := (0, 0)) (by simp) 78).trans (by rw [← hQX]; exact hy_g x.tok (.slice x.nA x.nms.length x.nc) x.tries (.slice x.lA x.es.length x.lc) (.slice B k c') 3)
         have h6 := (h5.alloc_ (.cells Y 40)).perm (L' := L' ++ ((gb, .cells QX 45 (0, 0)) :: (gx, .cells Y 40 (0, 0)) :: [(g, .cells HX 45 (0, 0))])) (perm_count (fun i a => by simp only [List.count_append, List.count_cons, List.count_nil]; omega))
         have H6 := Lib.hid h6; have QXE := Lib.hid hQX
         clear h5 h6 H3 hQX
         have yszv := YSZ.out
         go_wp2_with (first | (with_reducible refine wpList_load_midg 64 rfl (by kernel_rfl) 40 (.tmp 10) rfl gx 0 rfl Y _ RX.out Tryd.underlying40 rfl YI.out ?_) | (at_builtin; refine Hid.out ?_))
         refine Lib.hid ?_
         rw [fold_at0 Y _ 88 YSZ.out, setMany_whole _ _ (by rw [Array.length_toList, YSZ.out]; rfl), Array.toArray_toList]
         refine wpList_append_row (F := (gb, .cells QX 45 (0, 0)) :: (gx, .cells Y 40 (0, 0)) :: [(g, .cells HX 45 (0, 0))]) (L := L') rfl (.tmp 63) (.tmp 65) 42 rfl 40 (.agg Tryd.zeroCells40) 88 264 Tryd.underlying42 (by kernel_rfl) (by kernel_rfl) (by omega) rfl HROW.out (by exact H6.out) rfl (Src.newS' _ 88 Y 40 rfl 1 (by rw [YSZ.out])) YONE.out (k + 1) rfl _ YFL.out (by unfold maxLen; omega) (by omega) ?_
         intro A7 c7 w7 L7 hr7 h7
         have h8 := h7.perm (L' := (gb, .cells QX 45 (0, 0)) :: (L7 ++ ((gx, .cells Y 40 (0, 0)) :: [(g, .cells HX 45 (0, 0))]))) (perm_count (fun i a => by simp only [List.count_append, List.count_cons, List.count_nil]; omega))
         have H8 := Lib.hid h8; have HR7 := Lib.hid hr7
         have I1 : Hid ((Tryd.prog.info? 42).map (·.size) = some 1) := Lib.hid (by kernel_rfl)
         have l78 : 78 < QX.size := by rw [← QXE.out, hy_size x.tok]; omega
         have L78 := Lib.hid l78
         clear h7 h8 hr7 H6 c78 RX l78 yszv
         go_wp2_with (with_reducible refine wpList_store_one rfl 42 (.tmp 67) (.tmp 66) rfl (g := gb) (off := 78) (.slice A7 (k + 1) c7) rfl rfl rfl H8.out L78.out I1.out rfl ?_; intro w8 h9; refine Hid.out ?_)
         refine Lib.hid ?_
         rw [← QXE.out, hy_put x.tok] at h9
         have H9 := Lib.hid h9
         clear h9 H8 QXE
         go_wp2_with fail
         go_roundw
         case rel => exact ⟨k + 1, A7, c7, L7, by go_num, by omega, by rw [MT.out]; exact HR7.out, H9.out.keep [(gx, .cells Y 40 (0, 0))] (fun i a => by simp only [List.count_append, List.count_cons, List.count_nil]; omega)⟩
         case measure => simp [intOf]; omega
        ·obtain rfl : Y = X := HY0.out hq
         have H5 := H3.out
         have h5 := H5
         clear H5
         by_cases hq1 : (k : Int) = n
         ·have b1 : ((k : Int) == n) = true := by simpa using hq1
          have b2 : decide (up > 0) = false := by
           simp only [decide_eq_false_iff_not]
           exact fun h => hq ⟨hq1, h⟩
          clear hq hq1 HY0 HY1
          obtain ⟨QX, hQX⟩ : ∃ y, hyCells x.t (.slice x.nA x.nms.length x.nc) x.tries (.slice x.lA x.es.length x.lc) (.slice B k c') = y := ⟨_, rfl⟩
          rw [hQX] at h5
          have RX : Hid (w3.rangeAt gx 0 Y.toList) := Lib.hid (fun i u hi => by rw [Nat.zero_add, h5.cell (g := gx) (cs := Y) (t := 40) (fr := (0, 0)) (by simp) i]; simpa using hi)
          have c78 : w3.cell? ⟨gb, 78, none⟩ = some (.slice B k c') := (h5.cell (g := gb) (cs := QX) (t := 45) (fr := (0, 0)) (by simp) 78).trans (by rw [← hQX]; exact hy_g x.tok (.slice x.nA x.nms.length x.nc) x.tries (.slice x.lA x.es.length x.lc) (.slice B k c') 3)
          have h6 := (h5.alloc_ (.cells Y 40)).perm (L' := L' ++ ((gb, .cells QX 45 (0, 0)) :: (gx, .cells Y 40 (0, 0)) :: [(g, .cells HX 45 (0, 0))])) (perm_count (fun i a => by simp only [List.count_append, List.count_cons, List.count_nil]; omega))
          have H6 := Lib.hid h6; have QXE := Lib.hid hQX
          clear h5 h6 H3 hQX
          have yszv := YSZ.out
          go_wp2_with (first | (with_reducible refine wpList_load_midg 64 rfl (by kernel_rfl) 40 (.tmp 10) rfl gx 0 rfl Y _ RX.out Tryd.underlying40 rfl YI.out ?_) | (at_builtin; refine Hid.out ?_))
          refine Lib.hid ?_
          rw [fold_at0 Y _ 88 YSZ.out, setMany_whole _ _ (by rw [Array.length_toList, YSZ.out]; rfl), Array.toArray_toList]
          refine wpList_append_row (F := (gb, .cells QX 45 (0, 0)) :: (gx, .cells Y 40 (0, 0)) :: [(g, .cells HX 45 (0, 0))]) (L := L') rfl (.tmp 63) (.tmp 65) 42 rfl 40 (.agg Tryd.zeroCells40) 88 264 Tryd.underlying42 (by kernel_rfl) (by kernel_rfl) (by omega) rfl HROW.out (by exact H6.out) rfl (Src.newS' _ 88 Y 40 rfl 1 (by rw [YSZ.out])) YONE.out (k + 1) rfl _ YFL.out (by unfold maxLen; omega) (by omega) ?_
          intro A7 c7 w7 L7 hr7 h7
          have h8 := h7.perm (L' := (gb, .cells QX 45 (0, 0)) :: (L7 ++ ((gx, .cells Y 40 (0, 0)) :: [(g, .cells HX 45 (0, 0))]))) (perm_count (fun i a => by simp only [List.count_append, List.count_cons, List.count_nil]; omega))
          have H8 := Lib.hid h8; have HR7 := Lib.hid hr7
          have I1 : Hid ((Tryd.prog.info? 42).map (·.size) = some 1) := Lib.hid (by kernel_rfl)
          have l78 : 78 < QX.size := by rw [← QXE.out, hy_size x.tok]; omega
          have L78 := Lib.hid l78
          clear h7 h8 hr7 H6 c78 RX l78 yszv
          go_wp2_with (with_reducible refine wpList_store_one rfl 42 (.tmp 67) (.tmp 66) rfl (g := gb) (off := 78) (.slice A7 (k + 1) c7) rfl rfl rfl H8.out L78.out I1.out rfl ?_; intro w8 h9; refine Hid.out ?_)
          refine Lib.hid ?_
          rw [← QXE.out, hy_put x.tok] at h9
          have H9 := Lib.hid h9
          clear h9 H8 QXE
          go_wp2_with fail
          go_roundw
          case rel => exact ⟨k + 1, A7, c7, L7, by go_num, by omega, by rw [MT.out]; exact HR7.out, H9.out.keep [(gx, .cells Y 40 (0, 0))] (fun i a => by simp only [List.count_append, List.count_cons, List.count_nil]; omega)⟩
          case measure => simp [intOf]; omega
         ·have b1 : ((k : Int) == n) = false := by simpa using hq1
          clear hq hq1 HY0 HY1
          obtain ⟨QX, hQX⟩ : ∃ y, hyCells x.t (.slice x.nA x.nms.length x.nc) x.tries (.slice x.lA x.es.length x.lc) (.slice B k c') = y := ⟨_, rfl⟩
          rw [hQX] at h5
          have RX : Hid (w3.rangeAt gx 0 Y.toList) := Lib.hid (fun i u hi => by rw [Nat.zero_add, h5.cell (g := gx) (cs := Y) (t := 40) (fr := (0, 0)) (by simp) i]; simpa using hi)
          have c78 : w3.cell? ⟨gb, 78, none⟩ = some (.slice B k c') := (h5.cell (g := gb) (cs := QX) (t := 45) (fr := (0, 0)) (by simp) 78).trans (by rw [← hQX]; exact hy_g x.tok (.slice x.nA x.nms.length x.nc) x.tries (.slice x.lA x.es.length x.lc) (.slice B k c') 3)
          have h6 := (h5.alloc_ (.cells Y 40)).perm (L' := L' ++ ((gb, .cells QX 45 (0, 0)) :: (gx, .cells Y 40 (0, 0)) :: [(g, .cells HX 45 (0, 0))])) (perm_count (fun i a => by simp only [List.count_append, List.count_cons, List.count_nil]; omega))
          have H6 := Lib.hid h6; have QXE := Lib.hid hQX
          clear h5 h6 H3 hQX
          have yszv := YSZ.out
          go_wp2_with (first | (with_reducible refine wpList_load_midg 64 rfl (by kernel_rfl) 40 (.tmp 10) rfl gx 0 rfl Y _ RX.out Tryd.underlying40 rfl YI.out ?_) | (at_builtin; refine Hid.out ?_))
          refine Lib.hid ?_
          rw [fold_at0 Y _ 88 YSZ.out, setMany_whole _ _ (by rw [Array.length_toList, YSZ.out]; rfl), Array.toArray_toList]
          refine wpList_append_row (F := (gb, .cells QX 45 (0, 0)) :: (gx, .cells Y 40 (0, 0)) :: [(g, .cells HX 45 (0, 0))]) (L := L') rfl (.tmp 63) (.tmp 65) 42 rfl 40 (.agg Tryd.zeroCells40) 88 264 Tryd.underlying42 (by kernel_rfl) (by kernel_rfl) (by omega) rfl HROW.out (by exact H6.out) rfl (Src.newS' _ 88 Y 40 rfl 1 (by rw [YSZ.out])) YONE.out (k + 1) rfl _ YFL.out (by unfold maxLen; omega) (by omega) ?_
          intro A7 c7 w7 L7 hr7 h7
          have h8 := h7.perm (L' := (gb, .cells QX 45 (0, 0)) :: (L7 ++ ((gx, .cells Y 40 (0, 0)) :: [(g, .cells HX 45 (0, 0))]))) (perm_count (fun i a => by simp only [List.count_append, List.count_cons, List.count_nil]; omega))
          have H8 := Lib.hid h8; have HR7 := Lib.hid hr7
          have I1 : Hid ((Tryd.prog.info? 42).map (·.size) = some 1) := Lib.hid (by kernel_rfl)
          have l78 : 78 < QX.size := by rw [← QXE.out, hy_size x.tok]; omega
          have L78 := Lib.hid l78
          clear h7 h8 hr7 H6 c78 RX l78 yszv
          go_wp2_with (with_reducible refine wpList_store_one rfl 42 (.tmp 67) (.tmp 66) rfl (g := gb) (off := 78) (.slice A7 (k + 1) c7) rfl rfl rfl H8.out L78.out I1.out rfl ?_; intro w8 h9; refine Hid.out ?_)
          refine Lib.hid ?_
          rw [← QXE.out, hy_put x.tok] at h9
          have H9 := Lib.hid h9
          clear h9 H8 QXE
          go_wp2_with fail
          go_roundw
          case rel => exact ⟨k + 1, A7, c7, L7, by go_num, by omega, by rw [MT.out]; exact HR7.out, H9.out.keep [(gx, .cells Y 40 (0, 0))] (fun i a => by simp only [List.count_append, List.count_cons, List.count_nil]; omega)⟩
          case measure => simp [intOf]; omega
       ·obtain rfl : k = NS := by omega
        have htk : x.ss.take k = x.ss := by rw [← HNS.out, List.take_length]
        rw [htk] at hrow
        have hlen : (moreL n x.ss 0).length = k := by rw [moreL_len, HNS.out]
        have okx := x.ok HR.out (by decide) ((gb, .cells (hyCells x.t (.slice x.nA x.nms.length x.nc) x.tries (.slice x.lA x.es.length x.lc) (.slice B k c')) 45 (0, 0)) :: (L' ++ [(g, .cells HX 45 (0, 0))]))
        have oky : HyOk W (fun b => W.heap[b]?) ((gb, .cells (hyCells x.t (.slice x.nA x.nms.length x.nc) x.tries (.slice x.lA x.es.length x.lc) (.slice B k c')) 45 (0, 0)) :: (L' ++ [(g, .cells HX 45 (0, 0))])) x.t x.nA x.nms x.tries x.lA x.es B (moreL n x.ss 0) := by
         refine ⟨okx.tok, okx.x0, okx.x1, okx.nm, okx.nfew, okx.nsz, okx.en, okx.efew, okx.eok, okx.enm, ⟨L', Rd.of_row (by decide) hrow rfl (fun r hr => ?_), fun p hp => List.mem_cons_of_mem _ (List.mem_append_left _ hp)⟩, by omega, fun y hy => ?_, fun y hy => ?_⟩
         ·unfold spRows at hr
          obtain ⟨y, hy, rfl⟩ := List.mem_map.1 hr
          obtain ⟨j, z, hz, rfl⟩ := moreL_mem n x.ss 0 y hy
          rw [Array.length_toList]
          exact Sp.size (moreS_ok n j (okx.sok z hz))
         ·obtain ⟨j, z, hz, rfl⟩ := moreL_mem n x.ss 0 y hy
          exact moreS_ok n j (okx.sok z hz)
         ·obtain ⟨j, z, hz, rfl⟩ := moreL_mem n x.ss 0 y hy
          rw [(moreS_ser n j z).2.1]
          exact okx.snm z hz
        have kf := o_find (nc := x.nc) (lc := x.lc) (pc := c') TB0.out x.tries oky hst
        rw [hlen, HFM.out] at kf
        have hyi : (Tryd.prog.info? 45).map (·.size) = some (hyCells x.t (.slice x.nA x.nms.length x.nc) x.tries (.slice x.lA x.es.length x.lc) (.slice B k c')).size := by rw [hy_size x.tok]; kernel_rfl
        have qall := (hst.hy x.tok (List.mem_cons_self ..)).all
        obtain ⟨HY, hHY⟩ : ∃ y, hyCells x.t (.slice x.nA x.nms.length x.nc) x.tries (.slice x.lA x.es.length x.lc) (.slice B k c') = y := ⟨_, rfl⟩
        rw [hHY] at kf hyi qall
        have KFM := Lib.hid kf; have HYI := Lib.hid hyi; have QA := Lib.hid qall
        clear kf hyi qall oky okx hrow hst hlen htk hHY
        go_wp2_with (with_reducible refine wpList_load_midg 69 rfl (by kernel_rfl) 45 (.tmp 8) rfl gb 0 rfl HY _ QA.out Tryd.underlying45 rfl HYI.out ?_)
        refine KFM.out.mono ?_
        rintro e w9 ⟨rfl, h9⟩
        have H9 := Lib.hid h9
        clear h9
        go_wp2_with fail
        go_ret
        exact ⟨rfl, FIN.out _ _ H9.out⟩
  ·have bck : (CK != 0) = true := by simpa using hck
   clear hck
   go_wp2_with fail
   go_ret
   exact ⟨rfl, FIN.out _ _ H4.out⟩
end
end Go.Proofs.YtnjnooeldkideaaDoor
