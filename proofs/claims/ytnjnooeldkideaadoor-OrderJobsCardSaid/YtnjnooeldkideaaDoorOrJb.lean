/- order: the law OrderJobs. -/
import Derived.Test.YtnjnooeldkideaaDoorMOrArg
import Derived.Test.YtnjnooeldkideaaDoorMOrJo
import Derived.Test.YtnjnooeldkideaaDoorMRname
import Derived.OwnWalk
import Derived.Deep.DeepCutAuto
import Derived.Test.YtnjnooeldkideaaDoorMOrT
namespace Go.Proofs.YtnjnooeldkideaaDoor
set_option linter.unusedVariables false
set_option linter.unusedSimpArgs false
open Go.RowKit Go.Lib Go.Deep
section
variable {W w : World}
theorem run_ix {P : Program} (T E : TypeId) (hT : P.underlying T = some (.array 2 E)) (hE : ∀ w, (sizeOf E).run P w = .ok 36 w) (hA : ∀ w, (isAgg E).run P w = .ok true w) (X Y : Array Value) (hX : X.size = 36) (hY : Y.size = 36) (w : World) :
  (Instr.index T (.agg (X.toList ++ Y.toList).toArray) (.int .i64 0)).run P w = .ok (.agg X) w ∧ (Instr.index T (.agg (X.toList ++ Y.toList).toArray) (.int .i64 1)).run P w = .ok (.agg Y) w := by
 have e1 : List.take 36 (X.toList ++ Y.toList) = X.toList := List.take_left' (by simpa using hX)
 have e2 : List.take 36 (List.drop 36 (X.toList ++ Y.toList)) = Y.toList := by
  rw [List.drop_left' (by simpa using hX)]
  exact List.take_of_length_le (by simp [hY])
 constructor
 ·simp only [Instr.index, asIntOf, Sem.run_bind, Sem.run_pure, Result.andThen_ok, run_underlying hT, part, hE, hA]
  simp [hE, hA, e1, go_sem]
 ·simp only [Instr.index, asIntOf, Sem.run_bind, Sem.run_pure, Result.andThen_ok, run_underlying hT, part, hE, hA]
  simp [hE, hA, e2, go_sem]
theorem wr_range {v : World} {I : Nat → Option Obj} {X : List (Nat × Obj)} {g : Nat} (x : Wr W) (hv : St W v I X) (hm : (g, Obj.cells x.cells 49 (0, 0)) ∈ X) : v.rangeAt g 0 x.t.cells.toList ∧ v.cell? ⟨g, 75, none⟩ = some (.slice x.nA x.nms.length x.nc) ∧ v.cell? ⟨g, 76, none⟩ = some (.int .i64 x.tries) := by
 have hs := Tb.size x.tok
 have hc : ∀ j, x.cells[j]? = (x.t.cells.toList ++ [Value.slice x.nA x.nms.length x.nc, .int .i64 x.tries])[j]? := fun j => List.getElem?_toArray
 refine ⟨fun j u hj => ?_, ?_, ?_⟩
 ·have hl := (List.getElem?_eq_some_iff.1 hj).1
  rw [Nat.zero_add, hv.cell hm j, hc, List.getElem?_append_left hl, hj]
 ·rw [hv.cell hm 75, hc, List.getElem?_append_right (by simp [hs])]; simp [hs]
 ·rw [hv.cell hm 76, hc, List.getElem?_append_right (by simp [hs])]; simp [hs]
theorem Arg.entries {H : Type} {enc : TypeId × Value → H} {v : Value} (a : Arg enc Tryd.prog W 41 v) : ∃ (A : Option Addr) (c : Nat) (l : List En), v = .slice A l.length c ∧ l.length ≤ maxLen ∧ Rd W (fun b => W.heap[b]?) [] 126 A (enRows l) ∧ ∀ e ∈ l, e.Pre := by
 obtain ⟨A, n, c, l, rfl, hs⟩ := a.slice (α := En) (Q := fun cs x => cs = x.cells.toList ∧ x.Pre) (size := 126) Tryd.underlying41 (by kernel_rfl) (by decide) (fun cs h => Cel.entry h)
 have hn := hs.len
 subst hn
 exact ⟨A, c, l, rfl, Nat.le_trans hs.cap hs.cap', hs.rd (fun x : En => x.cells.toList) (fun cs x hq => hq.1), hs.all (fun cs x hq => hq.2)⟩
theorem zslot0 : ((Value.int .i64 0 :: .int .i64 0 :: .int .u64 0 :: .int .i64 0 :: .int .u8 0 :: .int .u8 0 :: .int .u8 0 :: .int .u8 0 :: .int .u8 0 :: .int .u8 0 :: .int .u8 0 :: .int .u8 0 :: .int .u8 0 :: .int .u8 0 :: .int .u8 0 :: .int .u8 0 :: .int .u8 0 :: .int .u8 0 :: .int .u8 0 :: .int .u8 0 :: .int .u8 0 :: .int .u8 0 :: .int .u8 0 :: .int .u8 0 :: .int .u8 0 :: .int .u8 0 :: .int .u8 0 :: .int .u8 0 :: .int .u8 0 :: .int .u8 0 :: .int .u8 0 :: .int .u8 0 :: .int .u8 0 :: .int .u8 0 :: .int .u8 0 :: .int .u8 0 :: []).toArray).size = 36 := rfl
theorem lv_ne (b : Bool) : (b != b) = false := by simp
set_option maxRecDepth 100000 in
set_option maxHeartbeats 16000000 in
theorem walk_orderJobs (W : World) (tabs : Tabs W) {H : Type} {enc : TypeId × Value → H} {v0 v1 : Value} (a0 : Arg enc Tryd.prog W 49 v0) (a1 : Arg enc Tryd.prog W 41 v1) :
  Calls Tryd.prog 6 #[v0, v1] W fun e w' => e = .returned (.bool true) ∧ Below W.heap.size W w' := by
 obtain ⟨x, rfl⟩ := Arg.worldO a0
 obtain ⟨lA, lc, es, rfl, hel, erd, epre⟩ := Arg.entries a1
 have tb := Go.Proofs.YtnjnooeldkideaaDoor.TB.start tabs
 have h1 := (St.start W).alloc (.cells x.cells 49)
 have fin : ∀ (v : World) (L : List (Nat × Obj)), St W v (fun b => W.heap[b]?) L → Below W.heap.size W v := fun v L hv => hv.below (Le.refl _)
 have FIN := Lib.hid fin
 clear fin
 obtain ⟨g, hg⟩ : ∃ g, W.heap.size = g := ⟨_, rfl⟩
 rw [hg] at h1
 have kA := fun (v : World) (L : List (Nat × Obj)) (hv : St W v (fun b => W.heap[b]?) L) => law_alive tb hv
 have kG := fun (v : World) (L : List (Nat × Obj)) (hv : St W v (fun b => W.heap[b]?) L) => law_great (nc := x.nc) (lc := lc) x.tok x.nrd (by simp) erd (by simp) (by have := x.nl; unfold maxLen at this; omega) (by unfold maxLen at hel; omega) (fun e he => (epre e he).fit) hv
 have hat := fun (v : World) (L : List (Nat × Obj)) (hv : St W v (fun b => W.heap[b]?) L) (hx : (g, Obj.cells x.cells 49 (0, 0)) ∈ L) => wr_range x hv hx
 obtain ⟨R, hR⟩ : ∃ R, greatB x.t x.nms es = R := ⟨_, rfl⟩
 rw [hR] at kG
 have few : R = false → rightT x.t = true ∧ x.nms.length ≤ 10 ∧ es.length ≤ 60 ∧ (∀ s ∈ x.nms, s.size ≤ 200) ∧ ∀ e ∈ es, e.call.name.size ≤ 200 := fun hr => by
  rw [hr] at hR
  unfold greatB at hR
  simp only [Bool.or_eq_false_iff, decide_eq_false_iff_not, Bool.not_eq_false'] at hR
  obtain ⟨h1, h2, h3, h4, h5⟩ := hR
  refine ⟨h1, by omega, by omega, fun s hs => ?_, fun s hs => ?_⟩
  ·unfold bigN at h4
   have := List.any_eq_false.1 h4 s hs
   simpa using this
  ·unfold bigE at h5
   have := List.any_eq_false.1 h5 s hs
   simpa using this
 have kN := fun (hr : R = false) (v : World) (L : List (Nat × Obj)) (hv : St W v (fun b => W.heap[b]?) L) => o_new (c := x.nc) tb x.t x.tok x.tries x.x0 x.x1 x.nrd (by have := (few hr).2.1; omega) (fun s hs => by have := (few hr).2.2.2.1 s hs; omega) (by simp) hv
 have w0 : (newM x.t x.tries).Well 100 := new_well x.tok x.tries (by decide)
 have ti := tb_info x.tok
 unfold Tb.val at kG kN
 obtain ⟨T, hT⟩ : ∃ y, x.t.cells = y := ⟨_, rfl⟩
 rw [hT] at kG kN hat ti
 obtain ⟨WX, hWX⟩ : ∃ y, x.cells = y := ⟨_, rfl⟩
 rw [hWX] at h1 hat ⊢
 obtain ⟨NN, hNN⟩ : ∃ y, x.nms.length = y := ⟨_, rfl⟩
 obtain ⟨NE, hNE⟩ : ∃ y, es.length = y := ⟨_, rfl⟩
 rw [hNN] at hat kG kN few
 rw [hNE] at kG few ⊢
 obtain ⟨nn, hnn⟩ : ∃ y, (filtN x.nms).length = y := ⟨_, rfl⟩
 rw [hnn] at kN
 have KA := Lib.hid kA; have KG := Lib.hid kG; have KN := Lib.hid kN; have HAT := Lib.hid hat; have TI := Lib.hid ti; have FEW := Lib.hid few; have HNE := Lib.hid hNE; have HNN := Lib.hid hnn; have H1 := Lib.hid h1; have W0 := Lib.hid w0; have ERD := Lib.hid erd; have EPRE := Lib.hid epre; have TB0 := Lib.hid tb
 clear kA kG kN hat ti few hNE hnn h1 w0 erd epre tb tabs hel a0 a1 hT hWX hNN hR
 go_enter Tryd.func6, Tryd.ntmps6
 go_wp2_with fail
 refine (KA.out _ _ H1.out).mono ?_
 rintro e w2 ⟨rfl, h2⟩
 obtain ⟨r0, c75, c76⟩ := HAT.out _ _ h2 (List.mem_cons_self ..)
 have R0 := Lib.hid r0; have H2 := Lib.hid h2
 clear r0 h2 H1
 go_wp2_with (with_reducible refine wpList_load_midg 18 rfl (by kernel_rfl) 32 (.tmp 17) rfl g 0 rfl T _ R0.out Tryd.underlying32 rfl TI.out ?_)
 refine (KG.out _ _ H2.out).mono ?_
 rintro e w3 ⟨rfl, h3⟩
 clear c75 c76 R0
 obtain ⟨r0, c75, c76⟩ := HAT.out _ _ h3 (List.mem_cons_self ..)
 have R0 := Lib.hid r0; have H3 := Lib.hid h3
 clear r0 h3 H2
 cases R with
 | true =>
  go_wp2_with fail
  go_ret
  exact ⟨rfl, FIN.out _ _ H3.out⟩
 | false =>
  obtain ⟨hrt0, -, hne60, -, hnames⟩ := FEW.out (by trivial)
  have HRT0 := Lib.hid hrt0; have HNAMES := Lib.hid hnames
  clear hrt0 hnames
  go_wp2_with (with_reducible refine wpList_load_midg 24 rfl (by kernel_rfl) 32 (.tmp 23) rfl g 0 rfl T _ R0.out Tryd.underlying32 rfl TI.out ?_)
  refine (KN.out (by trivial) _ _ H3.out).mono ?_
  rintro e w4 ⟨gm, A, c, Ln, rfl, mo, h4⟩
  obtain ⟨ns, hns⟩ : ∃ y, filtN x.nms = y := ⟨_, rfl⟩
  rw [hns] at mo HNN
  have H4 := Lib.hid h4; have MO := Lib.hid mo
  clear h4 mo hns c75 c76 R0 H3
  go_wp2_with fail
  go_loopw [6, 32] (fun v6 v32 wr => ∃ (k : Nat) (m : Md), v6 = .int .i64 m.began ∧ v32 = .int .i64 (k : Int) ∧ k ≤ NE ∧ rightT m.known = true ∧ m.Well (100 - k) ∧ MOk (fun b => W.heap[b]?) m ns A nn c Ln ∧ St W wr (fun b => W.heap[b]?) ((gm, .cells (m.cells (.slice A nn c)) 71 (0, 0)) :: (Ln ++ [(g, .cells WX 49 (0, 0))]))) (fun _ v32 _ => NE - (intOf v32).toNat)
  case atStart => exact ⟨0, newM x.t x.tries, rfl, rfl, by omega, HRT0.out, W0.out, MO.out, H4.out⟩
  case round =>
   obtain ⟨k, m, rfl, rfl, hk, hrt, hwell, mo, hst⟩ := hrel
   clear H4 MO
   by_cases hkl : k < NE
   ·obtain ⟨e, he⟩ : ∃ o, es[k]? = some o := ⟨_, List.getElem?_eq_getElem (by rw [HNE.out]; exact hkl)⟩
    obtain ⟨b, off, hA, hr⟩ := ERD.out.en wr _ hst (by simp) k e he
    have hem := List.mem_of_getElem? he
    have enm := HNAMES.out e hem
    have eok := (EPRE.out e hem).ok (by omega)
    have xi := en_info eok
    have xsz := En.size eok
    have xo := En.one e
    have h2 := hst.alloc (.cells Tryd.zeroCells38 38)
    have hdo := fun (v : World) (X : List (Nat × Obj)) (hL : ∀ p ∈ Ln, p ∈ X) (hv : St W v (fun b => W.heap[b]?) ((gm, .cells (m.cells (.slice A nn c)) 71 (0, 0)) :: X)) => o_do TB0.out mo e eok (by omega) hL hv
    have hlv := fun (v : World) (X : List (Nat × Obj)) (hv : St W v (fun b => W.heap[b]?) X) (hm : (gm, .cells (m.cells (.slice A nn c)) 71 (0, 0)) ∈ X) => o_live mo.ok hv hm
    have htb := fun (v : World) (X : List (Nat × Obj)) (hv : St W v (fun b => W.heap[b]?) X) (hm : (gm, .cells (m.cells (.slice A nn c)) 71 (0, 0)) ∈ X) => o_table mo.ok hv hm
    have hfe := fun (v : World) (X : List (Nat × Obj)) (hv : St W v (fun b => W.heap[b]?) X) (hm : (ge : Nat) → (ge, Obj.cells e.cells 38 (0, 0)) ∈ X → True) => trivial
    have fe : ∀ (ge : Nat) (v : World) (X : List (Nat × Obj)), St W v (fun b => W.heap[b]?) X → (ge, Obj.cells e.cells 38 (0, 0)) ∈ X → v.cell? ⟨ge, 0, none⟩ = some (.int .i64 e.kind) ∧ v.cell? ⟨ge, 3, none⟩ = some (.int .i64 e.call.kind) ∧ v.cell? ⟨ge, 7, none⟩ = some (.int .i64 e.rep.err) ∧ v.cell? ⟨ge, 8, none⟩ = some (.int .i64 e.rep.job) ∧ v.cell? ⟨ge, 88, none⟩ = some (.int .i64 e.state) ∧ v.rangeAt ge 0 e.cells.toList ∧ v.rangeAt ge 2 e.call.cells.toList := fun ge v X hv hm => by
     have q := hv.en eok hm
     refine ⟨q.kind, ?_, ?_, ?_, q.state, q.all, q.call⟩
     ·rw [hv.cell hm 3, show (3 : Nat) = 2 + 1 from rfl, En.gc e 1 (by omega)]; rfl
     ·rw [hv.cell hm 7, show (7 : Nat) = 7 + 0 from rfl, En.gr eok 0 (by omega)]; rfl
     ·rw [hv.cell hm 8, show (8 : Nat) = 7 + 1 from rfl, En.gr eok 1 (by omega)]; rfl
    have t0i := tb_info mo.ok.known
    have t0s := Tb.size mo.ok.known
    have t0o := m.known.one
    have fw : ∀ (gw : Nat) (v : World) (X : List (Nat × Obj)), St W v (fun b => W.heap[b]?) X → (gw, Obj.cells m.known.cells 32 (0, 0)) ∈ X → v.cell? ⟨gw, 74, none⟩ = some (.int .u64 m.known.flo) ∧ v.rangeAt gw 0 m.known.cells.toList ∧ v.cell? ⟨gw, 0, none⟩ = some (.int .i64 m.known.s0.st) ∧ v.cell? ⟨gw, 36, none⟩ = some (.int .i64 m.known.s1.st) := fun gw v X hv hm => by
     have q := hv.tb mo.ok.known hm
     exact ⟨q.flo, q.all, q.st0, q.st1⟩
    have eqs : ∀ v, (Op.equalIn 10000 32 (.agg m.known.cells) (.agg m.known.cells)).run Tryd.prog v = .ok true v := fun v => by
     obtain ⟨r, h1, h2⟩ := eq_table m.known m.known mo.ok.known mo.ok.known v
     rw [h1, h2.2 rfl]
    unfold Tb.val at htb
    unfold En.val at hdo
    obtain ⟨EX, hEX⟩ : ∃ X, e.cells = X := ⟨_, rfl⟩
    rw [hEX] at hr xi xsz xo hdo fe
    obtain ⟨CC, hCC⟩ : ∃ X, e.call.cells = X := ⟨_, rfl⟩
    rw [hCC] at fe
    have HCC := Lib.hid hCC
    clear hCC
    obtain ⟨T0, hT0⟩ : ∃ X, m.known.cells = X := ⟨_, rfl⟩
    have HT0 := Lib.hid hT0
    rw [hT0] at htb t0i t0s t0o fw eqs
    have xfit : 0 + EX.size ≤ Tryd.zeroCells38.size := by rw [xsz, zent]; omega
    have xmany : setMany Tryd.zeroCells38 0 EX.toList = EX := by rw [setMany_whole _ _ (by rw [Array.length_toList, xsz, zent]), Array.toArray_toList]
    have tfit : 0 + T0.size ≤ Tryd.zeroCells32.size := by rw [t0s, ztable]; omega
    have tmany : setMany Tryd.zeroCells32 0 T0.toList = T0 := by rw [setMany_whole _ _ (by rw [Array.length_toList, t0s, ztable]), Array.toArray_toList]
    have HR2 := Lib.hid hr; have XI := Lib.hid xi; have XO := Lib.hid xo; have XF := Lib.hid xfit; have XM := Lib.hid xmany; have H2 := Lib.hid h2; have KD0 := Lib.hid hdo; have KL := Lib.hid hlv; have KT := Lib.hid htb; have FE0 := Lib.hid fe; have TI0 := Lib.hid t0i; have TO0 := Lib.hid t0o; have FW0 := Lib.hid fw; have EQS := Lib.hid eqs; have TF := Lib.hid tfit; have TM := Lib.hid tmany; have HAA := Lib.hid hA; have EOK := Lib.hid eok; have MOK := Lib.hid mo; have HRT := Lib.hid hrt; have HW := Lib.hid hwell
    have bg0 := mo.b0; have bg1 := mo.b1
    clear hst hr xi xo xsz xfit xmany h2 hdo hlv htb fe t0i t0s t0o fw eqs tfit tmany hA eok mo hrt hwell hem he hEX hT0 hfe enm
    rw [HAA.out]
    go_wp2_with (first | (with_reducible refine wpList_load_midg 35 rfl (by kernel_rfl) 38 (.tmp 34) rfl b (off + k * 126) rfl EX _ HR2.out Tryd.underlying38 rfl XI.out ?_) | (with_reducible refine wpList_store_st rfl 38 (.tmp 8) (.tmp 35) rfl (g := wr.heap.size) (off := 0) EX rfl rfl H2.out XF.out XI.out XO.out ?_; intro w3 h3; refine Hid.out ?_))
    refine Lib.hid ?_
    rw [XM.out] at h3
    obtain ⟨ge, hge⟩ : ∃ y, wr.heap.size = y := ⟨_, rfl⟩
    rw [hge] at h3 ⊢
    have H3 := Lib.hid h3
    have FE : Hid _ := Lib.hid (FE0.out ge)
    clear h3 H2 HR2 hge FE0
    go_wp2_with fail
    refine (KL.out _ _ H3.out (by simp)).mono ?_
    rintro e1 wx ⟨rfl, rfl⟩
    go_wp2_with fail
    refine (KT.out _ _ H3.out (by simp)).mono ?_
    rintro e1 w4 ⟨rfl, h4⟩
    have h5 := h4.alloc (.cells Tryd.zeroCells32 32)
    have H5 := Lib.hid h5
    clear h4 h5 H3
    obtain ⟨lv, hlv⟩ : ∃ y, m.job.live = y := ⟨_, rfl⟩
    rw [hlv] at KL ⊢
    go_wp2_with (with_reducible refine wpList_store_st rfl 32 (.tmp 10) (.tmp 39) rfl (g := w4.heap.size) (off := 0) T0 rfl rfl H5.out TF.out TI0.out TO0.out ?_; intro w5 h5; refine Hid.out ?_)
    refine Lib.hid ?_
    rw [TM.out] at h5
    obtain ⟨gw, hgw⟩ : ∃ y, w4.heap.size = y := ⟨_, rfl⟩
    rw [hgw] at h5 ⊢
    have h6 := h5.perm (L' := (gm, .cells (m.cells (.slice A nn c)) 71 (0, 0)) :: ((gw, .cells T0 32 (0, 0)) :: (ge, .cells EX 38 (0, 0)) :: (Ln ++ [(g, .cells WX 49 (0, 0))]))) (perm_count (fun i a => by simp only [List.count_append, List.count_cons, List.count_nil]; omega))
    have re := (FE.out _ _ h6 (by simp)).2.2.2.2.2.1
    have RE := Lib.hid re; have H6 := Lib.hid h6; have HLV := Lib.hid hlv
    have FW : Hid _ := Lib.hid (FW0.out gw)
    clear h5 h6 H5 hgw re hlv FW0
    go_wp2_with (with_reducible refine wpList_load_midg 41 rfl (by kernel_rfl) 38 (.tmp 8) rfl ge 0 rfl EX _ RE.out Tryd.underlying38 rfl XI.out ?_)
    refine (KD0.out _ _ (fun p hp => by simp [hp]) H6.out).mono ?_
    rintro e1 w6 ⟨rfl, h6⟩
    clear RE H6
    cases hd : doM m ns e with
    | none =>
     as_aux_lemma =>
      rw [hd] at h6
      have h6 : St W w6 (fun b => W.heap[b]?) ((gm, .cells (m.cells (.slice A nn c)) 71 (0, 0)) :: ((gw, .cells T0 32 (0, 0)) :: (ge, .cells EX 38 (0, 0)) :: (Ln ++ [(g, .cells WX 49 (0, 0))]))) := h6
      have H6 := Lib.hid h6
      have bl := lv_ne lv
      have eqs := EQS.out
      clear h6 hd
      go_wp2_with fail
      have HDW := Lib.hid H6.out.drew1
      have s1 := (FW.out _ _ HDW.out (by simp)).2.1
      have HUT := Lib.hid Tryd.underlying32
      have TI9 : Hid ((Tryd.prog.info? 32).map (·.size) = some T0.toList.length) := Lib.hid (by rw [Array.length_toList]; exact TI0.out)
      refine wp_region_held_drew (S := fun v => v.rangeAt gw 0 T0.toList) (by kernel_rfl) s1 (fun hHeld => ?_)
      refine tk op0 (v := ?_) (by kernel_rfl) ?_ (by assumption) ?_ fun _ _ _ h => h
      rotate_left
      ·first | (refine ya rfl fun w hSw => ?_; go_simp; rfl) | (refine ya rfl fun w hSw => ?_; (try dsimp only at hSw); go_simp; try with_reducible rfl) | (refine Or.inr ⟨by rfl, ?_⟩; rfl)
      try simp only [Act.put, pu1, pu2, pu3]
      refine tk op2 (v := ?_) (by kernel_rfl) ?_ (by assumption) ?_ fun _ _ _ h => h
      rotate_left
      ·first | (refine ya rfl fun w hSw => ?_; go_simp; rfl) | (refine ya rfl fun w hSw => ?_; (try dsimp only at hSw); go_simp; try with_reducible rfl) | (refine Or.inr ⟨by rfl, ?_⟩; rfl)
      try simp only [Act.put, pu1, pu2, pu3]
      refine rd1 op1 (by kernel_rfl) fun K hK => ?_
      go_simp
      (first | (go_at_call 14; (with_reducible refine (KL.out _ _ HDW.out (by simp)).mono ?_); rintro e1 wx ⟨rfl, rfl⟩; dsimp only) | (go_at_call 15; (with_reducible refine (KT.out _ _ HDW.out (by simp)).mono ?_); rintro e1 wx ⟨rfl, hx⟩; dsimp only))
      refine hK.out _ _ ?_ fun hHeld => ?_
      ·(try dsimp only) <;> (first | exact s1 | exact (FW.out _ _ hx (by simp)).2.1)
      clear hK K
      try simp only [Act.put, pu1, pu2, pu3]
      refine tk op3 (v := ?_) (by kernel_rfl) ?_ (by assumption) ?_ fun _ _ _ h => h
      rotate_left
      ·first | (refine ya rfl fun w hSw => ?_; go_simp; rfl) | (refine ya rfl fun w hSw => ?_; (try dsimp only at hSw); go_simp; try with_reducible rfl) | (refine Or.inr ⟨by rfl, ?_⟩; rfl)
      try simp only [Act.put, pu1, pu2, pu3]
      refine tk op4 (v := ?_) (by kernel_rfl) ?_ (by assumption) ?_ fun _ _ _ h => h
      rotate_left
      ·first | (refine ya rfl fun w hSw => ?_; go_simp; rfl) | (refine ya rfl fun w hSw => ?_; (try dsimp only at hSw); go_simp; try with_reducible rfl) | (refine Or.inr ⟨by rfl, ?_⟩; rfl)
      try simp only [Act.put, pu1, pu2, pu3]
      refine tk op5 (v := ?_) (by kernel_rfl) ?_ (by assumption) ?_ fun _ _ _ h => h
      rotate_left
      ·first | (refine ya rfl fun w hSw => ?_; go_simp; rfl) | (refine ya rfl fun w hSw => ?_; (try dsimp only at hSw); go_simp; try with_reducible rfl) | (refine Or.inr ⟨by rfl, ?_⟩; rfl)
      try simp only [Act.put, pu1, pu2, pu3]
      refine tk op7 (v := ?_) (by kernel_rfl) ?_ (by assumption) ?_ fun _ _ _ h => h
      rotate_left
      ·first | ((refine yieldsIf_load_mid ?_ 32 (.tmp 10) ?_ gw 0 ?_ T0.toList _ ?_ HUT.out ?_ TI9.out) <;> first | rfl | exact fun w h => h) | (refine Or.inr ⟨by rfl, ?_⟩; rfl)
      try simp only [Act.put, pu1, pu2, pu3]
      refine rd1 op6 (by kernel_rfl) fun K hK => ?_
      go_simp
      (first | (go_at_call 14; (with_reducible refine (KL.out _ _ HDW.out (by simp)).mono ?_); rintro e1 wx ⟨rfl, rfl⟩; dsimp only) | (go_at_call 15; (with_reducible refine (KT.out _ _ HDW.out (by simp)).mono ?_); rintro e1 wx ⟨rfl, hx⟩; dsimp only))
      refine hK.out _ _ ?_ fun hHeld => ?_
      ·(try dsimp only) <;> (first | exact s1 | exact (FW.out _ _ hx (by simp)).2.1)
      clear hK K
      try simp only [Act.put, pu1, pu2, pu3]
      refine tk op8 (v := ?_) (by kernel_rfl) ?_ (by assumption) ?_ fun _ _ _ h => h
      rotate_left
      ·first | (refine ya rfl fun w hSw => ?_; go_simp; rfl) | (refine ya rfl fun w hSw => ?_; (try dsimp only at hSw); go_simp; try with_reducible rfl) | (refine Or.inr ⟨by rfl, ?_⟩; rfl)
      try simp only [Act.put, pu1, pu2, pu3]
      refine tk op9 (v := ?_) (by kernel_rfl) ?_ (by assumption) ?_ fun _ _ _ h => h
      rotate_left
      ·first | (refine ya rfl fun w hSw => ?_; go_simp; rfl) | (refine ya rfl fun w hSw => ?_; (try dsimp only at hSw); go_simp; try with_reducible rfl) | (refine Or.inr ⟨by rfl, ?_⟩; rfl)
      try simp only [Act.put, pu1, pu2, pu3]
      refine wpAnyH_done (by kernel_rfl) ?_ _
      go_wp2_with fail
      go_roundw
      case rel => exact ⟨k + 1, m, rfl, by go_num, by omega, HRT.out, HW.out.less (by omega), MOK.out, hx.keep [(gw, .cells T0 32 (0, 0)), (ge, .cells EX 38 (0, 0))] (fun i a => by simp only [List.count_append, List.count_cons, List.count_nil]; omega)⟩
      case measure => simp [intOf]; omega
    | some m' =>
     as_aux_lemma =>
      rw [hd] at h6
      have h6 : St W w6 (fun b => W.heap[b]?) ((gm, .cells (m'.cells (.slice A nn c)) 71 (0, 0)) :: ((gw, .cells T0 32 (0, 0)) :: (ge, .cells EX 38 (0, 0)) :: (Ln ++ [(g, .cells WX 49 (0, 0))]))) := h6
      have js := do_step hd
      have well' : m'.Well (100 - (k + 1)) := doM_well (k := 100 - (k + 1)) (by rw [show 100 - (k + 1) + 1 = 100 - k by omega]; exact HW.out) ns e EOK.out m' hd
      have mo' : MOk (fun b => W.heap[b]?) m' ns A nn c Ln := ⟨well'.ok, well'.b0, by have := well'.b1; omega, MOK.out.names, MOK.out.few⟩
      have t1i := tb_info mo'.ok.known
      have t1s := Tb.size mo'.ok.known
      have t1o := m'.known.one
      have htb := fun (v : World) (X : List (Nat × Obj)) (hv : St W v (fun b => W.heap[b]?) X) (hm : (gm, .cells (m'.cells (.slice A nn c)) 71 (0, 0)) ∈ X) => o_table mo'.ok hv hm
      have krr := fun (v : World) (X : List (Nat × Obj)) (hv : St W v (fun b => W.heap[b]?) X) => ref11_right m'.known mo'.ok.known hv
      rw [js.step.right HRT.out] at krr
      have kcr := fun (v : World) (X : List (Nat × Obj)) (hv : St W v (fun b => W.heap[b]?) X) => cref_right TB0.out e.call EOK.out.call hv
      have hci := cl_info e.call
      have ft : ∀ (gt : Nat) (v : World) (X : List (Nat × Obj)), St W v (fun b => W.heap[b]?) X → (gt, Obj.cells m'.known.cells 32 (0, 0)) ∈ X → v.cell? ⟨gt, 74, none⟩ = some (.int .u64 m'.known.flo) ∧ v.rangeAt gt 0 m'.known.cells.toList ∧ v.rangeAt gt 0 (m'.known.s0.cells.toList ++ m'.known.s1.cells.toList).toArray.toList := fun gt v X hv hm => by
       have q := hv.tb mo'.ok.known hm
       refine ⟨q.flo, q.all, fun j u hj => q.all j u ?_⟩
       have hl := (List.getElem?_eq_some_iff.1 hj).1
       show ((m'.known.s0.cells.toList ++ (m'.known.s1.cells.toList ++ [Value.int .i64 m'.known.act, .int .i64 m'.known.boo, .int .u64 m'.known.flo])).toArray).toList[j]? = some u
       rw [List.toList_toArray, ← List.append_assoc, List.getElem?_append_left hl, hj]
      have sz0 : m'.known.s0.cells.size = 36 := Slt.size mo'.ok.known.s0.dig
      have sz1 : m'.known.s1.cells.size = 36 := Slt.size mo'.ok.known.s1.dig
      have ixs := fun (v : World) => run_ix (P := Tryd.prog) 30 29 Tryd.underlying30 (fun w => by simp [Tryd.sizeOf29 w]) (fun w => by kernel_rfl) m'.known.s0.cells m'.known.s1.cells sz0 sz1 v
      have ssi : (Tryd.prog.info? 30).map (·.size) = some (m'.known.s0.cells.toList ++ m'.known.s1.cells.toList).toArray.size := by
       rw [List.size_toArray, List.length_append, Array.length_toList, Array.length_toList, sz0, sz1]
       kernel_rfl
      have eqn : m'.known = m.known → ∀ v, (Op.equalIn 10000 32 (.agg m'.known.cells) (.agg m.known.cells)).run Tryd.prog v = .ok true v := fun he v => by
       rw [he]
       obtain ⟨r, h1, h2⟩ := eq_table m.known m.known MOK.out.ok.known MOK.out.ok.known v
       rw [h1, h2.2 rfl]
      unfold Tb.val at htb krr
      unfold Cl.val at kcr
      have t1fit : 0 + m'.known.cells.size ≤ Tryd.zeroCells32.size := by rw [t1s, ztable]; omega
      have t1many : setMany Tryd.zeroCells32 0 m'.known.cells.toList = m'.known.cells := by rw [setMany_whole _ _ (by rw [Array.length_toList, t1s, ztable]), Array.toArray_toList]
      obtain ⟨T1, hT1⟩ : ∃ y, m'.known.cells = y := ⟨_, rfl⟩
      rw [hT1] at htb krr t1i t1s t1o t1fit t1many ft eqn
      rw [HT0.out] at eqn
      rw [HCC.out] at kcr hci
      obtain ⟨SS, hSS⟩ : ∃ y, (m'.known.s0.cells.toList ++ m'.known.s1.cells.toList).toArray = y := ⟨_, rfl⟩
      rw [hSS] at ixs ssi ft
      have hlv1 := fun (v : World) (X : List (Nat × Obj)) (hv : St W v (fun b => W.heap[b]?) X) (hm : (gm, .cells (m'.cells (.slice A nn c)) 71 (0, 0)) ∈ X) => o_live mo'.ok hv hm
      have jI := js.inst; have jO := js.other; have jE := js.ends; have jF := js.step.flo; have jS := js.same; have jK := js.kind; have jR := js.right
      rw [HLV.out] at jI jE
      obtain ⟨lw, hlw⟩ : ∃ y, m'.job.live = y := ⟨_, rfl⟩
      rw [hlw] at jI jE hlv1
      obtain ⟨kd, hkd⟩ : ∃ y, e.kind = y := ⟨_, rfl⟩
      obtain ⟨ck, hck⟩ : ∃ y, e.call.kind = y := ⟨_, rfl⟩
      obtain ⟨er, her⟩ : ∃ y, e.rep.err = y := ⟨_, rfl⟩
      obtain ⟨jb, hjb⟩ : ∃ y, e.rep.job = y := ⟨_, rfl⟩
      obtain ⟨st, hst⟩ : ∃ y, e.state = y := ⟨_, rfl⟩
      obtain ⟨bg, hbg⟩ : ∃ y, m.began = y := ⟨_, rfl⟩
      obtain ⟨bh, hbh⟩ : ∃ y, m'.began = y := ⟨_, rfl⟩
      obtain ⟨f0, hf0⟩ : ∃ y, m.known.flo = y := ⟨_, rfl⟩
      obtain ⟨f1, hf1⟩ : ∃ y, m'.known.flo = y := ⟨_, rfl⟩
      rw [hkd, hck, her, hjb, hst] at FE
      rw [hkd, hck, her, hjb, hbg, hbh] at jI
      rw [hkd, hck, her, hbg, hbh] at jO
      rw [hkd] at jE jK jR
      rw [hkd, her] at jS
      rw [hf0, hf1] at jF
      rw [hf0] at FW
      rw [hf1] at ft
      rw [hbg] at bg0 bg1 ⊢
      have H6 := Lib.hid h6; have KL1 := Lib.hid hlv1; have KT1 := Lib.hid htb; have KR := Lib.hid krr; have KCR := Lib.hid kcr; have TI1 := Lib.hid t1i; have TO1 := Lib.hid t1o; have T1F := Lib.hid t1fit; have T1M := Lib.hid t1many; have FT0 := Lib.hid ft; have EQN := Lib.hid eqn; have IXS := Lib.hid ixs; have SSI := Lib.hid ssi; have CI := Lib.hid hci
      have JI := Lib.hid jI; have JO := Lib.hid jO; have JE := Lib.hid jE; have JF := Lib.hid jF; have JS := Lib.hid js; have JSM := Lib.hid jS; have JK := Lib.hid jK; have JR := Lib.hid jR; have KD := Lib.hid hkd; have ST := Lib.hid hst; have HBH := Lib.hid hbh; have M2 := Lib.hid mo'; have WELL2 := Lib.hid well'
      clear h6 hlv1 htb krr kcr t1i t1s t1o t1fit t1many ft eqn ixs ssi hci jI jO jE jF js jS jK jR hkd hck her hjb hst hbg hbh hf0 hf1 hlw mo' well' hT1 hSS sz0 sz1 hd KL KT
      go_wp2_with fail
      refine (KT1.out _ _ H6.out (by simp)).mono ?_
      rintro e1 w7 ⟨rfl, h7⟩
      have H7 := Lib.hid (h7.alloc (.cells Tryd.zeroCells32 32))
      clear h7 H6
      go_wp2_with (with_reducible refine wpList_store_st rfl 32 (.tmp 11) (.tmp 55) rfl (g := w7.heap.size) (off := 0) T1 rfl rfl H7.out T1F.out TI1.out TO1.out ?_; intro w8 h8; refine Hid.out ?_)
      refine Lib.hid ?_
      rw [T1M.out] at h8
      obtain ⟨gt, hgt⟩ : ∃ y, w7.heap.size = y := ⟨_, rfl⟩
      rw [hgt] at h8 ⊢
      have FT : Hid _ := Lib.hid (FT0.out gt)
      obtain ⟨e0, e3, e7, e8, -, -⟩ := FE.out _ _ h8 (by simp)
      have x0 := (FW.out _ _ h8 (by simp)).1
      obtain ⟨x1, rt1, -⟩ := FT.out _ _ h8 (by simp)
      have RT1 := Lib.hid rt1; have H8 := Lib.hid h8
      clear h8 H7 hgt FT0 rt1
      have bf : decide (f1 < f0) = false := by have := JF.out; simp only [decide_eq_false_iff_not]; omega
      obtain ⟨ib, hib⟩ : ∃ ib : Bool, ib = decide (kd = 1 ∧ ck = 1 ∧ er = 0) := ⟨_, rfl⟩
      have HIB := Lib.hid hib
      clear hib
      go_upto_region 15 with fail
      go_cut [12] (fun s12 wx => s12 = .bool ib ∧ wx = w8)
      case first =>
       by_cases h1 : kd = 1
       ·subst h1
        by_cases h2 : ck = 1
        ·subst h2
         by_cases h3 : er = 0
         ·subst h3
          go_wp2_with fail
          go_meet
          exact ⟨by rw [HIB.out]; rfl, rfl⟩
         ·have b3 : (er == 0) = false := by simpa using h3
          have H3 := Lib.hid h3
          clear h3
          go_wp2_with fail
          go_meet
          exact ⟨by rw [HIB.out]; simp [H3.out], rfl⟩
        ·have b2 : (ck == 1) = false := by simpa using h2
         have H3 := Lib.hid h2
         clear h2
         go_wp2_with fail
         go_meet
         exact ⟨by rw [HIB.out]; simp [H3.out], rfl⟩
       ·have b1 : (kd == 1) = false := by simpa using h1
        have H3 := Lib.hid h1
        clear h1
        go_wp2_with fail
        go_meet
        exact ⟨by rw [HIB.out]; simp [H3.out], rfl⟩
      case rest =>
      obtain ⟨rfl, rfl⟩ := hcut
      go_upto_if 71 with fail
      go_cut [6] (fun s6 wy => s6 = .int .i64 bh ∧ wy = wc)
      case first =>
       cases ib with
       | true =>
        have hi := of_decide_eq_true HIB.out.symm
        have HB := Lib.hid (JI.out hi.1 hi.2.1 hi.2.2).2.2.2
        clear hi
        go_wp2_with fail
        go_meet
        exact ⟨by rw [HB.out], rfl⟩
       | false =>
        have HB := Lib.hid (JO.out (of_decide_eq_false HIB.out.symm))
        go_wp2_with fail
        go_meet
        exact ⟨by rw [HB.out], rfl⟩
      case rest =>
      obtain ⟨rfl, rfl⟩ := hcut
      go_upto_region 18 with fail
      go_cut [114] (fun s6 wx => s6 = .bool false ∧ St W wx (fun b => W.heap[b]?) ((gt, .cells T1 32 (0, 0)) :: (gm, .cells (m'.cells (.slice A nn c)) 71 (0, 0)) :: (gw, .cells T0 32 (0, 0)) :: (ge, .cells EX 38 (0, 0)) :: (Ln ++ [(g, .cells WX 49 (0, 0))])))
      case first =>
       cases ib with
       | true =>
        have hi := of_decide_eq_true HIB.out.symm
        obtain ⟨rfl, rfl, hj, hb⟩ := JI.out hi.1 hi.2.1 hi.2.2
        obtain ⟨rfl, rfl, rfl⟩ := hi
        have hjb : (jb != bh) = false := by rw [hj, hb]; simp
        clear hj hb JI JO JE JK HIB
        go_wp2_with fail
        refine (KL1.out _ _ H8.out (by simp)).mono ?_
        rintro e1 wx ⟨rfl, rfl⟩
        go_wp2_with (with_reducible refine wpList_load_midg 111 rfl (by kernel_rfl) 32 (.tmp 11) rfl gt 0 rfl T1 _ RT1.out Tryd.underlying32 rfl TI1.out ?_)
        refine (KR.out _ _ H8.out).mono ?_
        rintro e7 w9 ⟨rfl, h9⟩
        have H9 := Lib.hid h9
        clear h9
        go_wp2_with fail
        go_meet
        exact ⟨rfl, H9.out⟩
       | false =>
        have hi := of_decide_eq_false HIB.out.symm
        clear HIB
        rcases JK.out with rfl | rfl
        ·clear hi JI JO JE JK
         go_wp2_with (with_reducible refine wpList_load_midg 111 rfl (by kernel_rfl) 32 (.tmp 11) rfl gt 0 rfl T1 _ RT1.out Tryd.underlying32 rfl TI1.out ?_)
         refine (KR.out _ _ H8.out).mono ?_
         rintro e7 w9 ⟨rfl, h9⟩
         have H9 := Lib.hid h9
         clear h9
         go_wp2_with fail
         go_meet
         exact ⟨rfl, H9.out⟩
        ·obtain ⟨rfl, rfl⟩ := JE.out rfl
         clear hi JI JO JE JK
         go_wp2_with fail
         refine (KL1.out _ _ H8.out (by simp)).mono ?_
         rintro e1 wx ⟨rfl, rfl⟩
         go_wp2_with (with_reducible refine wpList_load_midg 111 rfl (by kernel_rfl) 32 (.tmp 11) rfl gt 0 rfl T1 _ RT1.out Tryd.underlying32 rfl TI1.out ?_)
         refine (KR.out _ _ H8.out).mono ?_
         rintro e7 w9 ⟨rfl, h9⟩
         have H9 := Lib.hid h9
         clear h9
         go_wp2_with fail
         go_meet
         exact ⟨rfl, H9.out⟩
      case rest =>
       obtain ⟨rfl, h9⟩ := hcut
       have RS := Lib.hid (FT.out _ _ h9 (by simp)).2.2
       have H9 := Lib.hid h9
       clear h9 H8 e0 e3 e7 e8 x0 x1 bf RT1 JI JO JE JF
       go_wp2_with (with_reducible refine wpList_load_midg 116 rfl (by kernel_rfl) 30 (.tmp 115) rfl gt 0 rfl SS _ RS.out Tryd.underlying30 rfl SSI.out ?_)
       go_loopw [117] (fun v wr => ∃ j : Int, v = .int .i64 j ∧ (j = 0 ∨ j = 1 ∨ j = 2) ∧ St W wr (fun b => W.heap[b]?) ((gt, .cells T1 32 (0, 0)) :: (gm, .cells (m'.cells (.slice A nn c)) 71 (0, 0)) :: (gw, .cells T0 32 (0, 0)) :: (ge, .cells EX 38 (0, 0)) :: (Ln ++ [(g, .cells WX 49 (0, 0))]))) (fun v _ => 2 - (intOf v).toNat)
       case atStart => exact ⟨0, rfl, by simp, H9.out⟩
       case round =>
        obtain ⟨j, rfl, hj, hs2⟩ := hrel
        clear H9 RS
        rcases hj with rfl | rfl | rfl
        ·as_aux_lemma =>
         have h8 := hs2.alloc (.cells ((Value.int .i64 0 :: .int .i64 0 :: .int .u64 0 :: .int .i64 0 :: .int .u8 0 :: .int .u8 0 :: .int .u8 0 :: .int .u8 0 :: .int .u8 0 :: .int .u8 0 :: .int .u8 0 :: .int .u8 0 :: .int .u8 0 :: .int .u8 0 :: .int .u8 0 :: .int .u8 0 :: .int .u8 0 :: .int .u8 0 :: .int .u8 0 :: .int .u8 0 :: .int .u8 0 :: .int .u8 0 :: .int .u8 0 :: .int .u8 0 :: .int .u8 0 :: .int .u8 0 :: .int .u8 0 :: .int .u8 0 :: .int .u8 0 :: .int .u8 0 :: .int .u8 0 :: .int .u8 0 :: .int .u8 0 :: .int .u8 0 :: .int .u8 0 :: .int .u8 0 :: []).toArray) 29)
         have H8 := Lib.hid h8
         clear h8 hs2
         obtain ⟨s1, hs1⟩ : ∃ y, m'.known.s0.st = y := ⟨_, rfl⟩
         obtain ⟨s0, hs0⟩ : ∃ y, m.known.s0.st = y := ⟨_, rfl⟩
         have SI : Hid ((Tryd.prog.info? 29).map (·.size) = some (m'.known.s0).cells.size) := Lib.hid (slt_info M2.out.ok.known.s0)
         have SO : Hid ((m'.known.s0).cells.all (·.oneCell') = true) := Lib.hid (Slt.one _)
         have SF : Hid (0 + (m'.known.s0).cells.size ≤ ((Value.int .i64 0 :: .int .i64 0 :: .int .u64 0 :: .int .i64 0 :: .int .u8 0 :: .int .u8 0 :: .int .u8 0 :: .int .u8 0 :: .int .u8 0 :: .int .u8 0 :: .int .u8 0 :: .int .u8 0 :: .int .u8 0 :: .int .u8 0 :: .int .u8 0 :: .int .u8 0 :: .int .u8 0 :: .int .u8 0 :: .int .u8 0 :: .int .u8 0 :: .int .u8 0 :: .int .u8 0 :: .int .u8 0 :: .int .u8 0 :: .int .u8 0 :: .int .u8 0 :: .int .u8 0 :: .int .u8 0 :: .int .u8 0 :: .int .u8 0 :: .int .u8 0 :: .int .u8 0 :: .int .u8 0 :: .int .u8 0 :: .int .u8 0 :: .int .u8 0 :: []).toArray).size) := Lib.hid (by rw [Slt.size M2.out.ok.known.s0.dig, zslot0]; omega)
         have SM : Hid (setMany ((Value.int .i64 0 :: .int .i64 0 :: .int .u64 0 :: .int .i64 0 :: .int .u8 0 :: .int .u8 0 :: .int .u8 0 :: .int .u8 0 :: .int .u8 0 :: .int .u8 0 :: .int .u8 0 :: .int .u8 0 :: .int .u8 0 :: .int .u8 0 :: .int .u8 0 :: .int .u8 0 :: .int .u8 0 :: .int .u8 0 :: .int .u8 0 :: .int .u8 0 :: .int .u8 0 :: .int .u8 0 :: .int .u8 0 :: .int .u8 0 :: .int .u8 0 :: .int .u8 0 :: .int .u8 0 :: .int .u8 0 :: .int .u8 0 :: .int .u8 0 :: .int .u8 0 :: .int .u8 0 :: .int .u8 0 :: .int .u8 0 :: .int .u8 0 :: .int .u8 0 :: []).toArray) 0 (m'.known.s0).cells.toList = (m'.known.s0).cells) := Lib.hid (by rw [setMany_whole _ _ (by rw [Array.length_toList, Slt.size M2.out.ok.known.s0.dig, zslot0]), Array.toArray_toList])
         have ix := fun v => (IXS.out v).1
         have STP : Hid ((s1 = 2 → s0 = 2 ∨ (kd = 2 ∧ st = 2)) ∧ (s1 = 3 → s0 = 2 ∨ s0 = 3)) := Lib.hid (by rw [← hs1, ← hs0]; have := JS.out.step.s0; rw [← KD.out, ← ST.out]; exact this)
         have c9 : ∀ (v : World) (X : List (Nat × Obj)) (b : Nat), St W v (fun b => W.heap[b]?) X → (b, Obj.cells (m'.known.s0).cells 29 (0, 0)) ∈ X → v.cell? ⟨b, 0, none⟩ = some (.int .i64 s1) := fun v X b hv hm => by rw [hv.cell hm, ← hs1]; rfl
         have d9 : ∀ (v : World) (X : List (Nat × Obj)), St W v (fun b => W.heap[b]?) X → (gw, .cells T0 32 (0, 0)) ∈ X → v.cell? ⟨gw, 0, none⟩ = some (.int .i64 s0) := fun v X hv hm => by rw [← hs0]; exact (FW.out _ _ hv hm).2.2.1
         obtain ⟨SX, hSX⟩ : ∃ y, (m'.known.s0).cells = y := ⟨_, rfl⟩
         rw [hSX] at SI SO SF SM ix c9
         have C9 := Lib.hid c9; have D9 := Lib.hid d9
         clear c9 d9 hSX hs1 hs0
         go_wp2_with (with_reducible refine wpList_store_st rfl 29 (.tmp 14) (.tmp 120) rfl (g := wr.heap.size) (off := 0) SX rfl rfl H8.out SF.out SI.out SO.out ?_; intro w9 h9; refine Hid.out ?_)
         refine Lib.hid ?_
         rw [SM.out] at h9
         obtain ⟨gs, hgs⟩ : ∃ y, wr.heap.size = y := ⟨_, rfl⟩
         rw [hgs] at h9 ⊢
         have q0 := C9.out _ _ gs h9 (by simp)
         have q1 := D9.out _ _ h9 (by simp)
         obtain ⟨e0, -, -, -, e88, -⟩ := FE.out _ _ h9 (by simp)
         have H9 := Lib.hid h9
         clear h9 H8 hgs ix C9 D9
         by_cases p2 : s1 = 2
         ·subst p2
          by_cases q2 : s0 = 2
          ·subst q2
           clear STP
           go_wp2_with fail
           go_roundw
           case rel => exact ⟨0 + 1, by go_num, by omega, H9.out.weaken (A := [_])⟩
           case measure => simp [intOf]
          ·have c2 : (s0 != 2) = true := by simpa using q2
           obtain ⟨rfl, rfl⟩ := (STP.out.1 rfl).resolve_left q2
           clear STP
           go_wp2_with fail
           go_roundw
           case rel => exact ⟨0 + 1, by go_num, by omega, H9.out.weaken (A := [_])⟩
           case measure => simp [intOf]
         ·have b2 : (s1 == 2) = false := by simpa using p2
          by_cases p3 : s1 = 3
          ·subst p3
           by_cases q2 : s0 = 2
           ·subst q2
            clear STP
            go_wp2_with fail
            go_roundw
            case rel => exact ⟨0 + 1, by go_num, by omega, H9.out.weaken (A := [_])⟩
            case measure => simp [intOf]
           ·have c2 : (s0 != 2) = true := by simpa using q2
            obtain rfl := (STP.out.2 rfl).resolve_left q2
            clear STP
            go_wp2_with fail
            go_roundw
            case rel => exact ⟨0 + 1, by go_num, by omega, H9.out.weaken (A := [_])⟩
            case measure => simp [intOf]
          ·have b3 : (s1 == 3) = false := by simpa using p3
           clear STP
           go_wp2_with fail
           go_roundw
           case rel => exact ⟨0 + 1, by go_num, by omega, H9.out.weaken (A := [_])⟩
           case measure => simp [intOf]
        ·as_aux_lemma =>
         have h8 := hs2.alloc (.cells ((Value.int .i64 0 :: .int .i64 0 :: .int .u64 0 :: .int .i64 0 :: .int .u8 0 :: .int .u8 0 :: .int .u8 0 :: .int .u8 0 :: .int .u8 0 :: .int .u8 0 :: .int .u8 0 :: .int .u8 0 :: .int .u8 0 :: .int .u8 0 :: .int .u8 0 :: .int .u8 0 :: .int .u8 0 :: .int .u8 0 :: .int .u8 0 :: .int .u8 0 :: .int .u8 0 :: .int .u8 0 :: .int .u8 0 :: .int .u8 0 :: .int .u8 0 :: .int .u8 0 :: .int .u8 0 :: .int .u8 0 :: .int .u8 0 :: .int .u8 0 :: .int .u8 0 :: .int .u8 0 :: .int .u8 0 :: .int .u8 0 :: .int .u8 0 :: .int .u8 0 :: []).toArray) 29)
         have H8 := Lib.hid h8
         clear h8 hs2
         obtain ⟨s1, hs1⟩ : ∃ y, m'.known.s1.st = y := ⟨_, rfl⟩
         obtain ⟨s0, hs0⟩ : ∃ y, m.known.s1.st = y := ⟨_, rfl⟩
         have SI : Hid ((Tryd.prog.info? 29).map (·.size) = some (m'.known.s1).cells.size) := Lib.hid (slt_info M2.out.ok.known.s1)
         have SO : Hid ((m'.known.s1).cells.all (·.oneCell') = true) := Lib.hid (Slt.one _)
         have SF : Hid (0 + (m'.known.s1).cells.size ≤ ((Value.int .i64 0 :: .int .i64 0 :: .int .u64 0 :: .int .i64 0 :: .int .u8 0 :: .int .u8 0 :: .int .u8 0 :: .int .u8 0 :: .int .u8 0 :: .int .u8 0 :: .int .u8 0 :: .int .u8 0 :: .int .u8 0 :: .int .u8 0 :: .int .u8 0 :: .int .u8 0 :: .int .u8 0 :: .int .u8 0 :: .int .u8 0 :: .int .u8 0 :: .int .u8 0 :: .int .u8 0 :: .int .u8 0 :: .int .u8 0 :: .int .u8 0 :: .int .u8 0 :: .int .u8 0 :: .int .u8 0 :: .int .u8 0 :: .int .u8 0 :: .int .u8 0 :: .int .u8 0 :: .int .u8 0 :: .int .u8 0 :: .int .u8 0 :: .int .u8 0 :: []).toArray).size) := Lib.hid (by rw [Slt.size M2.out.ok.known.s1.dig, zslot0]; omega)
         have SM : Hid (setMany ((Value.int .i64 0 :: .int .i64 0 :: .int .u64 0 :: .int .i64 0 :: .int .u8 0 :: .int .u8 0 :: .int .u8 0 :: .int .u8 0 :: .int .u8 0 :: .int .u8 0 :: .int .u8 0 :: .int .u8 0 :: .int .u8 0 :: .int .u8 0 :: .int .u8 0 :: .int .u8 0 :: .int .u8 0 :: .int .u8 0 :: .int .u8 0 :: .int .u8 0 :: .int .u8 0 :: .int .u8 0 :: .int .u8 0 :: .int .u8 0 :: .int .u8 0 :: .int .u8 0 :: .int .u8 0 :: .int .u8 0 :: .int .u8 0 :: .int .u8 0 :: .int .u8 0 :: .int .u8 0 :: .int .u8 0 :: .int .u8 0 :: .int .u8 0 :: .int .u8 0 :: []).toArray) 0 (m'.known.s1).cells.toList = (m'.known.s1).cells) := Lib.hid (by rw [setMany_whole _ _ (by rw [Array.length_toList, Slt.size M2.out.ok.known.s1.dig, zslot0]), Array.toArray_toList])
         have ix := fun v => (IXS.out v).2
         have STP : Hid ((s1 = 2 → s0 = 2 ∨ (kd = 2 ∧ st = 2)) ∧ (s1 = 3 → s0 = 2 ∨ s0 = 3)) := Lib.hid (by rw [← hs1, ← hs0]; have := JS.out.step.s1; rw [← KD.out, ← ST.out]; exact this)
         have c9 : ∀ (v : World) (X : List (Nat × Obj)) (b : Nat), St W v (fun b => W.heap[b]?) X → (b, Obj.cells (m'.known.s1).cells 29 (0, 0)) ∈ X → v.cell? ⟨b, 0, none⟩ = some (.int .i64 s1) := fun v X b hv hm => by rw [hv.cell hm, ← hs1]; rfl
         have d9 : ∀ (v : World) (X : List (Nat × Obj)), St W v (fun b => W.heap[b]?) X → (gw, .cells T0 32 (0, 0)) ∈ X → v.cell? ⟨gw, 36, none⟩ = some (.int .i64 s0) := fun v X hv hm => by rw [← hs0]; exact (FW.out _ _ hv hm).2.2.2
         obtain ⟨SX, hSX⟩ : ∃ y, (m'.known.s1).cells = y := ⟨_, rfl⟩
         rw [hSX] at SI SO SF SM ix c9
         have C9 := Lib.hid c9; have D9 := Lib.hid d9
         clear c9 d9 hSX hs1 hs0
         go_wp2_with (with_reducible refine wpList_store_st rfl 29 (.tmp 14) (.tmp 120) rfl (g := wr.heap.size) (off := 0) SX rfl rfl H8.out SF.out SI.out SO.out ?_; intro w9 h9; refine Hid.out ?_)
         refine Lib.hid ?_
         rw [SM.out] at h9
         obtain ⟨gs, hgs⟩ : ∃ y, wr.heap.size = y := ⟨_, rfl⟩
         rw [hgs] at h9 ⊢
         have q0 := C9.out _ _ gs h9 (by simp)
         have q1 := D9.out _ _ h9 (by simp)
         obtain ⟨e0, -, -, -, e88, -⟩ := FE.out _ _ h9 (by simp)
         have H9 := Lib.hid h9
         clear h9 H8 hgs ix C9 D9
         by_cases p2 : s1 = 2
         ·subst p2
          by_cases q2 : s0 = 2
          ·subst q2
           clear STP
           go_wp2_with fail
           go_roundw
           case rel => exact ⟨1 + 1, by go_num, by omega, H9.out.weaken (A := [_])⟩
           case measure => simp [intOf]
          ·have c2 : (s0 != 2) = true := by simpa using q2
           obtain ⟨rfl, rfl⟩ := (STP.out.1 rfl).resolve_left q2
           clear STP
           go_wp2_with fail
           go_roundw
           case rel => exact ⟨1 + 1, by go_num, by omega, H9.out.weaken (A := [_])⟩
           case measure => simp [intOf]
         ·have b2 : (s1 == 2) = false := by simpa using p2
          by_cases p3 : s1 = 3
          ·subst p3
           by_cases q2 : s0 = 2
           ·subst q2
            clear STP
            go_wp2_with fail
            go_roundw
            case rel => exact ⟨1 + 1, by go_num, by omega, H9.out.weaken (A := [_])⟩
            case measure => simp [intOf]
           ·have c2 : (s0 != 2) = true := by simpa using q2
            obtain rfl := (STP.out.2 rfl).resolve_left q2
            clear STP
            go_wp2_with fail
            go_roundw
            case rel => exact ⟨1 + 1, by go_num, by omega, H9.out.weaken (A := [_])⟩
            case measure => simp [intOf]
          ·have b3 : (s1 == 3) = false := by simpa using p3
           clear STP
           go_wp2_with fail
           go_roundw
           case rel => exact ⟨1 + 1, by go_num, by omega, H9.out.weaken (A := [_])⟩
           case measure => simp [intOf]
        ·as_aux_lemma =>
         obtain ⟨e0, -, e7, -, -, -, r2⟩ := FE.out _ _ hs2 (by simp)
         have q1 := (FT.out _ _ hs2 (by simp)).2.1
         have q0 := (FW.out _ _ hs2 (by simp)).2.1
         have R2 := Lib.hid r2; have Q1 := Lib.hid q1; have Q0 := Lib.hid q0; have H9 := Lib.hid hs2
         clear r2 q1 q0 hs2
         by_cases k1 : kd = 1
         ·subst k1
          have kc := KCR.out
          rw [JR.out rfl] at kc
          have KC := Lib.hid kc
          clear kc KCR JR
          by_cases h0 : er = 0
          ·subst h0
           go_wp2_with (with_reducible refine wpList_load_midg 174 rfl (by kernel_rfl) 24 (.tmp 173) rfl ge 2 rfl CC _ R2.out Tryd.underlying24 rfl CI.out ?_)
           refine (KC.out _ _ H9.out).mono ?_
           rintro e1 w10 ⟨rfl, h10⟩
           have H10 := Lib.hid h10
           clear h10
           go_wp2_with fail
           go_roundw
           case rel => exact ⟨k + 1, m', by rw [HBH.out], by go_num, by omega, JS.out.step.right HRT.out, WELL2.out, M2.out, H10.out.keep [(gt, .cells T1 32 (0, 0)), (gw, .cells T0 32 (0, 0)), (ge, .cells EX 38 (0, 0))] (fun i a => by simp only [List.count_append, List.count_cons, List.count_nil]; omega)⟩
           case measure => simp [intOf]; omega
          ·have b0 : (er != 0) = true := by simpa using h0
           have eqn := EQN.out (JSM.out rfl (.inl h0))
           have H10 := H9
           clear h0
           go_wp2_with (first | (with_reducible refine wpList_load_midg 180 rfl (by kernel_rfl) 32 (.tmp 11) rfl gt 0 rfl T1 _ Q1.out Tryd.underlying32 rfl TI1.out ?_) | (with_reducible refine wpList_load_midg 181 rfl (by kernel_rfl) 32 (.tmp 10) rfl gw 0 rfl T0 _ Q0.out Tryd.underlying32 rfl TI0.out ?_))
           go_roundw
           case rel => exact ⟨k + 1, m', by rw [HBH.out], by go_num, by omega, JS.out.step.right HRT.out, WELL2.out, M2.out, H10.out.keep [(gt, .cells T1 32 (0, 0)), (gw, .cells T0 32 (0, 0)), (ge, .cells EX 38 (0, 0))] (fun i a => by simp only [List.count_append, List.count_cons, List.count_nil]; omega)⟩
           case measure => simp [intOf]; omega
         ·have b1 : (kd == 1) = false := by simpa using k1
          have H10 := H9
          clear k1
          go_wp2_with fail
          go_roundw
          case rel => exact ⟨k + 1, m', by rw [HBH.out], by go_num, by omega, JS.out.step.right HRT.out, WELL2.out, M2.out, H10.out.keep [(gt, .cells T1 32 (0, 0)), (gw, .cells T0 32 (0, 0)), (ge, .cells EX 38 (0, 0))] (fun i a => by simp only [List.count_append, List.count_cons, List.count_nil]; omega)⟩
          case measure => simp [intOf]; omega
   ·obtain rfl : k = NE := by omega
    have HS := Lib.hid hst
    clear hst
    go_wp2_with fail
    go_ret
    exact ⟨rfl, FIN.out _ _ HS.out⟩
end
end Go.Proofs.YtnjnooeldkideaaDoor
