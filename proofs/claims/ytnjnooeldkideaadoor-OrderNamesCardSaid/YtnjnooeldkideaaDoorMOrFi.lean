/- order: a history as data; Find. Maps from texts, made by the program itself. Maps from numbers to numbers, made by the program itself. -/
import Derived.Test.YtnjnooeldkideaaDoorOrFd
import Derived.OwnWalk
import Derived.Deep.DeepCutAuto
import Derived.Test.YtnjnooeldkideaaDoorMOrT
import Derived.Test.YtnjnooeldkideaaDoorSlices
import Derived.Carry
import Derived.WalkKit
import Derived.Laws.StructEq
namespace Go.Proofs.YtnjnooeldkideaaDoor
section
set_option linter.unusedVariables false
set_option linter.unusedSimpArgs false
open Go.RowKit Go.Lib Go.Deep
section
variable {W w : World} {J : Nat → Option Obj} {t : Tb} {F : List (Nat × Obj)}
variable {nA lA pA : Option Addr} {nc lc pc : Nat} {nms : List ByteArray} {es : List En} {ss : List Sp} {t : Tb}
def hyCells (t : Tb) (nv : Value) (tries : Int) (lv sv : Value) : Array Value := (t.cells.toList ++ [nv, .int .i64 tries, lv, sv]).toArray
structure HyOk (W : World) (J : Nat → Option Obj) (F : List (Nat × Obj)) (t : Tb) (nA : Option Addr) (nms : List ByteArray) (tries : Int) (lA : Option Addr) (es : List En) (pA : Option Addr) (ss : List Sp) : Prop where
 tok : t.Ok
 x0 : -9223372036854775808 ≤ tries
 x1 : tries ≤ 9223372036854775807
 nm : ∃ L, Rd W J L 1 nA (nmRows nms) ∧ ∀ p ∈ L, p ∈ F
 nfew : nms.length ≤ 100
 nsz : ∀ s ∈ nms, s.size ≤ 1000000
 en : ∃ L, Rd W J L 126 lA (enRows es) ∧ ∀ p ∈ L, p ∈ F
 efew : es.length ≤ 100
 eok : ∀ e ∈ es, e.Ok
 enm : ∀ e ∈ es, e.call.name.size ≤ 1000000
 sp : ∃ L, Rd W J L 88 pA (spRows ss) ∧ ∀ p ∈ L, p ∈ F
 sfew : ss.length ≤ 100
 sok : ∀ s ∈ ss, s.Ok
 snm : ∀ s ∈ ss, s.call.name.size ≤ 1000000
theorem HyOk.more {F G : List (Nat × Obj)} {tries : Int} (h : HyOk W J F t nA nms tries lA es pA ss) (hG : ∀ p ∈ F, p ∈ G) : HyOk W J G t nA nms tries lA es pA ss :=
 ⟨h.tok, h.x0, h.x1, let ⟨L, a, b⟩ := h.nm; ⟨L, a, fun p hp => hG p (b p hp)⟩, h.nfew, h.nsz, let ⟨L, a, b⟩ := h.en; ⟨L, a, fun p hp => hG p (b p hp)⟩, h.efew, h.eok, h.enm, let ⟨L, a, b⟩ := h.sp; ⟨L, a, fun p hp => hG p (b p hp)⟩, h.sfew, h.sok, h.snm⟩
theorem hy_size (ok : t.Ok) (nv : Value) (tries : Int) (lv sv : Value) : (hyCells t nv tries lv sv).size = 79 := by
 have h := Tb.size ok
 simp [hyCells, h]
theorem hy_g (ok : t.Ok) (nv : Value) (tries : Int) (lv sv : Value) (j : Nat) : (hyCells t nv tries lv sv)[75 + j]? = [nv, .int .i64 tries, lv, sv][j]? := by
 have h := Tb.size ok
 unfold hyCells
 rw [List.getElem?_toArray, List.getElem?_append_right (by simp; omega)]
 congr 1
 simp [h]
structure HyAt (v : World) (g : Nat) (t : Tb) (nv : Value) (tries : Int) (lv sv : Value) : Prop where
 first : v.rangeAt g 0 t.cells.toList
 names : v.cell? ⟨g, 75, none⟩ = some nv
 trs : v.cell? ⟨g, 76, none⟩ = some (.int .i64 tries)
 log : v.cell? ⟨g, 77, none⟩ = some lv
 spans : v.cell? ⟨g, 78, none⟩ = some sv
 all : v.rangeAt g 0 (hyCells t nv tries lv sv).toList
theorem St.hy {v : World} {X : List (Nat × Obj)} {g : Nat} {nv : Value} {tries : Int} {lv sv : Value} {T : TypeId} {fr : Nat × Nat} (ok : t.Ok) (h : St W v J X) (hm : (g, Obj.cells (hyCells t nv tries lv sv) T fr) ∈ X) : HyAt v g t nv tries lv sv :=
 ⟨fun j u hj => by
  have hl : j < 75 := by have := (List.getElem?_eq_some_iff.1 hj).1; rw [Array.length_toList, Tb.size ok] at this; exact this
  rw [Nat.zero_add, h.cell hm j]
  unfold hyCells
  rw [List.getElem?_toArray, List.getElem?_append_left (by simp [Tb.size ok]; omega)]
  exact hj, (h.cell hm 75).trans (hy_g ok nv tries lv sv 0), (h.cell hm 76).trans (hy_g ok nv tries lv sv 1), (h.cell hm 77).trans (hy_g ok nv tries lv sv 2), (h.cell hm 78).trans (hy_g ok nv tries lv sv 3), fun j u hj => by rw [Nat.zero_add, h.cell hm j]; simpa using hj⟩
def endsOf (es : List En) : List En := es.filter fun e => e.kind == 2
def findM (t : Tb) (nms : List ByteArray) (tries : Int) (es : List En) (ss : List Sp) : Int :=
 if 5 < ss.length ∨ 3 < (endsOf es).length then 264 else if foundM (filtN nms) (ss.length + (endsOf es).length + 1) ss (endsOf es) (newM t tries) = true then 0 else 261
theorem endsOf_take (es : List En) (k : Nat) (e : En) (h : es[k]? = some e) : endsOf (es.take (k + 1)) = if e.kind = 2 then endsOf (es.take k) ++ [e] else endsOf (es.take k) := by
 unfold endsOf
 rw [List.take_add_one, h, Option.toList_some, List.filter_append]
 by_cases hk : e.kind = 2
 ·simp [hk]
 ·simp [hk]
theorem Row.le {E : TypeId} {size n c : Nat} {A : Option Addr} {xs : List Value} {L : List (Nat × Obj)} (h : Row E size (.slice A n c) n xs L) : n ≤ c := by
 obtain ⟨_, ⟨hv, h0, _⟩ | ⟨g, off, cap, cur, hv, _, hnc, _⟩⟩ := h
 ·omega
 ·injection hv with _ _ h3
  omega
theorem new_well {f : Nat} (ok : t.Ok) (x : Int) (hf : f ≤ 1000) : (newM t x).Well f := ⟨newM_ok ok x, by show (0 : Int) ≤ 0; decide, by show (0 : Int) + f ≤ 1000000; omega⟩
theorem en_zero : (Tryd.prog.info? 38).map (fun i => (i.zero, i.size, i.bytes)) = some (some (.agg Tryd.zeroCells38), 126, 344) := by kernel_rfl
set_option maxRecDepth 100000 in
set_option maxHeartbeats 16000000 in
theorem o_find (tb : Go.Proofs.YtnjnooeldkideaaDoor.TB W J) (tries : Int) (hy : HyOk W J F t nA nms tries lA es pA ss) (h : St W w J F) :
  Calls Tryd.prog 10 #[.agg (hyCells t (.slice nA nms.length nc) tries (.slice lA es.length lc) (.slice pA ss.length pc))] w fun e w' => e = .returned (.int .i64 (findM t nms tries es ss)) ∧ St W w' J F := by
 have h1 := h.alloc (.cells (hyCells t (.slice nA nms.length nc) tries (.slice lA es.length lc) (.slice pA ss.length pc)) 45)
 obtain ⟨g, hg⟩ : ∃ g, w.heap.size = g := ⟨_, rfl⟩
 rw [hg] at h1
 have hat := fun (v : World) (X : List (Nat × Obj)) (hv : St W v J X) (hx : (g, Obj.cells (hyCells t (.slice nA nms.length nc) tries (.slice lA es.length lc) (.slice pA ss.length pc)) 45 (0, 0)) ∈ X) => hv.hy hy.tok hx
 obtain ⟨HX, hHX⟩ : ∃ y, hyCells t (.slice nA nms.length nc) tries (.slice lA es.length lc) (.slice pA ss.length pc) = y := ⟨_, rfl⟩
 rw [hHX] at h1 hat ⊢
 have hsf := hy.sfew
 have hef := hy.efew
 have fin : ∀ (z : Int) (v : World) (D : List (Nat × Obj)), findM t nms tries es ss = z → St W v J (D ++ ((g, .cells HX 45 (0, 0)) :: F)) → (Ending.returned (.int .i64 z) = .returned (.int .i64 (findM t nms tries es ss)) ∧ St W v J F) := fun z v D hz hv => ⟨by rw [hz], hv.keep (D ++ [(g, .cells HX 45 (0, 0))]) (fun i a => by simp only [List.count_append, List.count_cons, List.count_nil]; omega)⟩
 have hR : findM t nms tries es ss = if 5 < ss.length ∨ 3 < (endsOf es).length then 264 else if foundM (filtN nms) (ss.length + (endsOf es).length + 1) ss (endsOf es) (newM t tries) = true then 0 else 261 := rfl
 generalize findM t nms tries es ss = R at *
 obtain ⟨NS, hNS⟩ : ∃ y, ss.length = y := ⟨_, rfl⟩
 obtain ⟨NE, hNE⟩ : ∃ y, es.length = y := ⟨_, rfl⟩
 rw [hNS] at hat hsf hR
 rw [hNE] at hat hef
 obtain ⟨-, -, -, q77, q78, -⟩ := hat _ _ h1 (List.mem_cons_self ..)
 have hsc := (h1.alloc (.cells #[.slice pA NS pc, .slice none 0 0] 66))
 rw [World.size_alloc, hg] at hsc
 have H1 := Lib.hid hsc; have HAT := Lib.hid hat; have FIN := Lib.hid fin; have HR := Lib.hid hR; have HY := Lib.hid hy; have HNS := Lib.hid hNS; have HNE := Lib.hid hNE
 clear hsc h1 h hat fin hR hy hNS hNE hHX
 go_enter Tryd.func10, Tryd.ntmps10
 go_wp2_with fail
 clear q77 q78
 go_loopw [12] (fun v wr => ∃ (k : Nat) (B : Option Addr) (c' : Nat) (L' : List (Nat × Obj)), v = .int .i64 (k : Int) ∧ k ≤ NE ∧ Row 38 126 (.slice B (endsOf (es.take k)).length c') (endsOf (es.take k)).length (enRows (endsOf (es.take k))).flatten L' ∧ St W wr J ((g + 1, .cells #[.slice pA NS pc, .slice B (endsOf (es.take k)).length c'] 66 (0, 0)) :: (L' ++ ((g, .cells HX 45 (0, 0)) :: F)))) (fun v _ => NE - (intOf v).toNat)
 case atStart => exact ⟨0, none, 0, [], rfl, by omega, Row.nil _ _, H1.out⟩
 case round =>
  obtain ⟨k, B, c', L', rfl, hk, hrow, hst⟩ := hrel
  clear H1
  by_cases hkl : k < NE
  ·obtain ⟨x, hx⟩ : ∃ o, es[k]? = some o := ⟨_, List.getElem?_eq_getElem (by rw [HNE.out]; exact hkl)⟩
   obtain ⟨Le, hre, hle⟩ := HY.out.en
   obtain ⟨b, off, rfl, hr⟩ := hre.en wr _ hst (fun p hp => by simp [hle p hp]) k x hx
   have xok := HY.out.eok x (List.mem_of_getElem? hx)
   have xi := en_info xok
   have xsz := En.size xok
   have xo := En.one x
   have h2 := hst.alloc (.cells Tryd.zeroCells38 38)
   have hnext := endsOf_take es k x hx
   have hkind : ∀ (v : World) (X : List (Nat × Obj)) (b' : Nat), St W v J X → (b', Obj.cells x.cells 38 (0, 0)) ∈ X → v.cell? ⟨b', 0, none⟩ = some (.int .i64 x.kind) := fun v X b' hv hm => (hv.en xok hm).kind
   have hfl : (enRows (endsOf (es.take k) ++ [x])).flatten = (enRows (endsOf (es.take k))).flatten ++ x.cells.toList := by simp [enRows]
   have helen : (endsOf (es.take k)).length ≤ 100 := by
    have q1 : (endsOf (es.take k)).length ≤ (es.take k).length := List.length_filter_le _ _
    have q2 : (es.take k).length ≤ k := by rw [List.length_take]; omega
    omega
   generalize endsOf (es.take k) = fs at *
   obtain ⟨FL, hFL⟩ : ∃ y, (enRows fs).flatten = y := ⟨_, rfl⟩
   rw [hFL] at hrow hfl
   obtain ⟨fl, hfln⟩ : ∃ y, fs.length = y := ⟨_, rfl⟩
   rw [hfln] at hrow hst h2 helen
   obtain ⟨kd, hkd⟩ : ∃ y, x.kind = y := ⟨_, rfl⟩
   rw [hkd] at hkind hnext
   obtain ⟨X, hX⟩ : ∃ X, x.cells = X := ⟨_, rfl⟩
   rw [hX] at hr xi xsz xo hkind hfl
   have xfit : 0 + X.size ≤ Tryd.zeroCells38.size := by rw [xsz, zent]; omega
   have xmany : setMany Tryd.zeroCells38 0 X.toList = X := by rw [setMany_whole _ _ (by rw [Array.length_toList, xsz, zent]), Array.toArray_toList]
   have xone : ∀ u ∈ X.toList, u.oneCell' = true := by
    have q := xo
    rw [← Array.all_toList] at q
    exact fun u hu => List.all_eq_true.1 q u hu
   have HR2 := Lib.hid hr; have XI := Lib.hid xi; have XO := Lib.hid xo; have XF := Lib.hid xfit; have XM := Lib.hid xmany; have H2 := Lib.hid h2; have HNX := Lib.hid hnext; have HKD := Lib.hid hkind; have HFL := Lib.hid hfl; have HROW := Lib.hid hrow; have XONE := Lib.hid xone; have XSZ := Lib.hid xsz; have HFLN := Lib.hid hfln; have HFLL := Lib.hid hFL
   clear hst hr xi xo xsz xfit xmany h2 hnext hkind hfl hrow xone xok hx hX hkd hle hre hFL hfln
   go_wp2_with (first | (with_reducible refine wpList_load_midg 15 rfl (by kernel_rfl) 38 (.tmp 14) rfl b (off + k * 126) rfl X _ HR2.out Tryd.underlying38 rfl XI.out ?_) | (with_reducible refine wpList_store_st rfl 38 (.tmp 5) (.tmp 15) rfl (g := wr.heap.size) (off := 0) X rfl rfl H2.out XF.out XI.out XO.out ?_; intro w3 h3; refine Hid.out ?_))
   refine Lib.hid ?_
   rw [XM.out] at h3
   obtain ⟨gx, hgx⟩ : ∃ y, wr.heap.size = y := ⟨_, rfl⟩
   rw [hgx] at h3 ⊢
   have c0 := HKD.out _ _ gx h3 (List.mem_cons_self ..)
   by_cases h2k : kd = 2
   ·subst h2k
    have RX : Hid (w3.rangeAt gx 0 X.toList) := Lib.hid (fun i u hi => by rw [Nat.zero_add, h3.cell (g := gx) (cs := X) (t := 38) (fr := (0, 0)) (by simp) i]; simpa using hi)
    have c1 := h3.cell (g := g + 1) (cs := #[.slice pA NS pc, .slice B fl c']) (t := 66) (fr := (0, 0)) (by simp) 1
    have h4 := (h3.alloc_ (.cells X 38)).perm (L' := L' ++ ((g + 1, .cells #[.slice pA NS pc, .slice B fl c'] 66 (0, 0)) :: (gx, .cells X 38 (0, 0)) :: ((g, .cells HX 45 (0, 0)) :: F))) (perm_count (fun i a => by simp only [List.count_append, List.count_cons, List.count_nil]; omega))
    have H4 := Lib.hid h4
    have HN2 := Lib.hid (show endsOf (es.take (k + 1)) = fs ++ [x] by rw [HNX.out, if_pos rfl])
    have HFR := Lib.hid (show (Tryd.prog.info? 38).map (·.size) = some X.size from XI.out)
    have xszv := XSZ.out
    clear h3 h4 H2 HR2 hgx HNX HKD
    go_wp2_with (first | (with_reducible refine wpList_load_midg 21 rfl (by kernel_rfl) 38 (.tmp 5) rfl gx 0 rfl X _ RX.out Tryd.underlying38 rfl XI.out ?_) | (at_builtin; refine Hid.out ?_))
    refine Lib.hid ?_
    rw [fold_at0 X _ 126 XSZ.out, setMany_whole _ _ (by rw [Array.length_toList, XSZ.out]; rfl), Array.toArray_toList]
    refine wpList_append_row (F := (g + 1, .cells #[.slice pA NS pc, .slice B fl c'] 66 (0, 0)) :: (gx, .cells X 38 (0, 0)) :: ((g, .cells HX 45 (0, 0)) :: F)) (L := L') rfl (.tmp 20) (.tmp 22) 41 rfl 38 (.agg Tryd.zeroCells38) 126 344 Tryd.underlying41 en_zero (by kernel_rfl) (by omega) rfl HROW.out (by exact H4.out) rfl (Src.newS' _ 126 X 38 rfl 1 (by rw [XSZ.out])) XONE.out (fl + 1) rfl ((enRows (fs ++ [x])).flatten) (by rw [HFL.out]) (by unfold maxLen; omega) (by omega) ?_
    intro A5 c5 w5 L5 hr5 h5
    have h6 := h5.perm (L' := (g + 1, .cells #[.slice pA NS pc, .slice B fl c'] 66 (0, 0)) :: (L5 ++ ((gx, .cells X 38 (0, 0)) :: ((g, .cells HX 45 (0, 0)) :: F)))) (perm_count (fun i a => by simp only [List.count_append, List.count_cons, List.count_nil]; omega))
    have H6 := Lib.hid h6; have HR5 := Lib.hid hr5
    have I1 : Hid ((Tryd.prog.info? 41).map (·.size) = some 1) := Lib.hid (by kernel_rfl)
    clear h5 h6 hr5 H4 c0 c1 xszv RX
    go_wp2_with (with_reducible refine wpList_store_one rfl 41 (.tmp 24) (.tmp 23) rfl (g := g + 1) (off := 1) (.slice A5 (fl + 1) c5) rfl rfl rfl H6.out (by simp) I1.out rfl ?_; intro w6 h7; refine Hid.out ?_)
    refine Lib.hid ?_
    have h8 : St W w6 J ((g + 1, .cells #[.slice pA NS pc, .slice A5 (fl + 1) c5] 66 (0, 0)) :: (L5 ++ ((gx, .cells X 38 (0, 0)) :: ((g, .cells HX 45 (0, 0)) :: F)))) := h7
    have H8 := Lib.hid h8
    clear h7 h8 H6
    go_wp2_with fail
    go_roundw
    case rel => exact ⟨k + 1, A5, c5, L5, by go_num, by omega, by rw [HN2.out, List.length_append, HFLN.out, List.length_singleton]; exact HR5.out, by rw [HN2.out, List.length_append, HFLN.out, List.length_singleton]; exact H8.out.keep [(gx, .cells X 38 (0, 0))] (fun i a => by simp only [List.count_append, List.count_cons, List.count_nil]; omega)⟩
    case measure => simp [intOf]; omega
   ·have b2 : (kd == 2) = false := by simpa using h2k
    have HN2 := Lib.hid (show endsOf (es.take (k + 1)) = fs by rw [HNX.out, if_neg h2k])
    have H3 := Lib.hid h3
    clear h3 H2 HR2 hgx HNX HKD
    go_wp2_with fail
    go_roundw
    case rel => exact ⟨k + 1, B, c', L', by go_num, by omega, by rw [HN2.out, HFLN.out, HFLL.out]; exact HROW.out, by rw [HN2.out, HFLN.out]; exact H3.out.weaken (A := [_])⟩
    case measure => simp [intOf]; omega
  ·obtain rfl : k = NE := by omega
   rw [← HNE.out, List.take_length] at hrow hst
   obtain ⟨en, hen⟩ : ∃ y, (endsOf es).length = y := ⟨_, rfl⟩
   rw [hen] at hrow hst
   have hR2 := HR.out
   rw [hen] at hR2
   have hle := hrow.le
   have c0 := hst.cell (g := g + 1) (cs := #[.slice pA NS pc, .slice B en c']) (t := 66) (fr := (0, 0)) (by simp) 0
   have c1 := hst.cell (g := g + 1) (cs := #[.slice pA NS pc, .slice B en c']) (t := 66) (fr := (0, 0)) (by simp) 1
   simp only [List.getElem?_toArray, List.getElem?_cons_succ, List.getElem?_cons_zero] at c0 c1
   have hel : en ≤ 100 := by
    have q1 : (endsOf es).length ≤ es.length := List.length_filter_le _ _
    rw [HNE.out, hen] at q1
    omega
   have hen2 := HNE.out
   have h3 := hst
   have HST := Lib.hid hst; have HROW := Lib.hid hrow; have HEN := Lib.hid hen; have HLE := Lib.hid hle
   clear hst hrow hen hle h3 hen2
   by_cases h5 : 5 < NS
   ·have hz : R = 264 := by rw [hR2, if_pos (Or.inl h5)]
    have HF := Lib.hid (FIN.out 264 wr ((g + 1, .cells #[.slice pA NS pc, .slice B en c'] 66 (0, 0)) :: L') hz HST.out)
    have b5 : decide ((NS : Int) > 5) = true := by simp; omega
    clear hR2 hz HR
    go_wp2_with fail
    go_ret
    exact HF.out
   ·have b5 : decide ((NS : Int) > 5) = false := by simp; omega
    by_cases h3 : 3 < en
    ·have hz : R = 264 := by rw [hR2, if_pos (Or.inr h3)]
     have HF := Lib.hid (FIN.out 264 wr ((g + 1, .cells #[.slice pA NS pc, .slice B en c'] 66 (0, 0)) :: L') hz HST.out)
     have b3 : decide ((en : Int) > 3) = true := by simp; omega
     clear hR2 hz HR
     go_wp2_with fail
     go_ret
     exact HF.out
    ·have b3 : decide ((en : Int) > 3) = false := by simp; omega
     have hR3 : R = if foundM (filtN nms) (NS + en + 1) ss (endsOf es) (newM t tries) = true then 0 else 261 := by rw [hR2, if_neg (by omega)]
     clear hR2 HR
     have hyo := HY.out
     obtain ⟨Lnm, hnm, hnl⟩ := hyo.nm
     have sub : ∀ p ∈ F, p ∈ (g + 1, Obj.cells #[.slice pA NS pc, .slice B en c'] 66 (0, 0)) :: (L' ++ ((g, .cells HX 45 (0, 0)) :: F)) := fun p hp => by simp [hp]
     have kn := fun (v : World) (hv : St W v J ((g + 1, .cells #[.slice pA NS pc, .slice B en c'] 66 (0, 0)) :: (L' ++ ((g, .cells HX 45 (0, 0)) :: F)))) => o_new (c := nc) tb t hyo.tok tries hyo.x0 hyo.x1 hnm (by have := hyo.nfew; omega) hyo.nsz (fun p hp => sub p (hnl p hp)) hv
     have hfn : FnOk W J (L' ++ F) pA ss B (endsOf es) (NS + en + 1) := by
      have eok : ∀ e ∈ endsOf es, e.Ok := fun e he => hyo.eok e (List.mem_filter.1 he).1
      obtain ⟨Lp, hp1, hp2⟩ := hyo.sp
      refine ⟨⟨Lp, hp1, fun p hp => by simp [hp2 p hp]⟩, ⟨L', Rd.of_row (by omega) HROW.out rfl (enRows_len _ eok), fun p hp => by simp [hp]⟩, hyo.sok, hyo.snm, eok, fun e he => hyo.enm e (List.mem_filter.1 he).1, by rw [HNS.out, HEN.out]; omega, by omega⟩
     have kf := fun (g' : Nat) (A' : Option Addr) (c2 : Nat) (L2 : List (Nat × Obj)) (mo : MOk J (newM t tries) (filtN nms) A' (filtN nms).length c2 L2) (v : World) (hv : St W v J ((g', .cells ((newM t tries).cells (.slice A' (filtN nms).length c2)) 71 (0, 0)) :: (L2 ++ ((g + 1, .cells #[.slice pA NS pc, .slice B en c'] 66 (0, 0)) :: (L' ++ ((g, .cells HX 45 (0, 0)) :: F)))))) => o_found tb (NS + en + 1) ss (endsOf es) pA NS pc B en c' (newM t tries) g' _ v HNS.out HEN.out HLE.out (hfn.more (fun p hp => by
      rcases List.mem_append.1 hp with hp | hp <;> simp [hp])) ⟨⟨A', c2, L2, mo, fun p hp => by simp [hp], List.mem_cons_self ..⟩, new_well hyo.tok tries (by omega)⟩ hv
     obtain ⟨fb, hfb⟩ : ∃ y, foundM (filtN nms) (NS + en + 1) ss (endsOf es) (newM t tries) = y := ⟨_, rfl⟩
     unfold FndPost at kf
     rw [hfb] at kf hR3
     have ti := tb_info hyo.tok
     have fsx := fun (v : World) (X : List (Nat × Obj)) (hv : St W v J X) (h1 : (g + 1, Obj.cells #[.slice pA NS pc, .slice B en c'] 66 (0, 0)) ∈ X) (h2 : (g, .cells HX 45 (0, 0)) ∈ X) => (⟨hv.cell h1 0, hv.cell h1 1, (HAT.out _ _ hv h2).first, (HAT.out _ _ hv h2).names, (HAT.out _ _ hv h2).trs⟩ : v.cell? ⟨g + 1, 0, none⟩ = some (.slice pA NS pc) ∧ v.cell? ⟨g + 1, 1, none⟩ = some (.slice B en c') ∧ v.rangeAt g 0 t.cells.toList ∧ v.cell? ⟨g, 75, none⟩ = some (.slice nA nms.length nc) ∧ v.cell? ⟨g, 76, none⟩ = some (.int .i64 tries))
     unfold Tb.val at kn
     obtain ⟨CT, hCT⟩ : ∃ y, t.cells = y := ⟨_, rfl⟩
     rw [hCT] at kn ti fsx
     obtain ⟨NN, hNN⟩ : ∃ y, nms.length = y := ⟨_, rfl⟩
     rw [hNN] at kn fsx
     have KN := Lib.hid kn; have KF := Lib.hid kf; have HR3 := Lib.hid hR3; have FSX := Lib.hid fsx; have TI : Hid ((Tryd.prog.info? 32).map (·.size) = some CT.toList.length) := Lib.hid (by rw [Array.length_toList]; exact ti)
     have HUT := Lib.hid Tryd.underlying32
     clear kn kf hR3 fsx ti hfb hCT hNN hfn hyo hnm hnl sub
     go_wp2_with fail
     have HDW := Lib.hid HST.out.drew1
     have s1 := FSX.out _ _ HDW.out (by simp) (by simp)
     refine wp_region_held_drew (S := fun v => v.cell? ⟨g + 1, 0, none⟩ = some (.slice pA NS pc) ∧ v.cell? ⟨g + 1, 1, none⟩ = some (.slice B en c') ∧ v.rangeAt g 0 CT.toList ∧ v.cell? ⟨g, 75, none⟩ = some (.slice nA NN nc) ∧ v.cell? ⟨g, 76, none⟩ = some (.int .i64 tries)) (by kernel_rfl) s1 (fun hHeld => ?_)
     refine tk op0 (v := ?_) (by kernel_rfl) ?_ (by assumption) ?_ fun _ _ _ h => h
     rotate_left
     ·((refine Or.inl ⟨by rfl, ?_⟩; intro w hSw; obtain ⟨hS1, hS2, hS3, hS4, hS5⟩ := hSw; go_simp; try with_reducible rfl))
     try simp only [Act.put, pu1, pu2, pu3]
     refine tk op1 (v := ?_) (by kernel_rfl) ?_ (by assumption) ?_ fun _ _ _ h => h
     rotate_left
     ·(refine ya rfl fun w hSw => ?_; go_simp; rfl)
     try simp only [Act.put, pu1, pu2, pu3]
     refine tk op2 (v := ?_) (by kernel_rfl) ?_ (by assumption) ?_ fun _ _ _ h => h
     rotate_left
     ·(((refine yieldsIf_load_mid ?_ 32 (.tmp 39) ?_ g 0 ?_ CT.toList _ ?_ HUT.out ?_ TI.out) <;> first | rfl | exact fun w h => h.2.2.1))
     try simp only [Act.put, pu1, pu2, pu3]
     refine tk op3 (v := ?_) (by kernel_rfl) ?_ (by assumption) ?_ fun _ _ _ h => h
     rotate_left
     ·(refine ya rfl fun w hSw => ?_; go_simp; rfl)
     try simp only [Act.put, pu1, pu2, pu3]
     refine tk op4 (v := ?_) (by kernel_rfl) ?_ (by assumption) ?_ fun _ _ _ h => h
     rotate_left
     ·((refine Or.inl ⟨by rfl, ?_⟩; intro w hSw; obtain ⟨hS1, hS2, hS3, hS4, hS5⟩ := hSw; go_simp; try with_reducible rfl))
     try simp only [Act.put, pu1, pu2, pu3]
     refine tk op5 (v := ?_) (by kernel_rfl) ?_ (by assumption) ?_ fun _ _ _ h => h
     rotate_left
     ·(refine ya rfl fun w hSw => ?_; go_simp; rfl)
     try simp only [Act.put, pu1, pu2, pu3]
     refine tk op6 (v := ?_) (by kernel_rfl) ?_ (by assumption) ?_ fun _ _ _ h => h
     rotate_left
     ·((refine Or.inl ⟨by rfl, ?_⟩; intro w hSw; obtain ⟨hS1, hS2, hS3, hS4, hS5⟩ := hSw; go_simp; try with_reducible rfl))
     try simp only [Act.put, pu1, pu2, pu3]
     refine rd1 op7 (by kernel_rfl) fun K hK => ?_
     go_simp
     ((go_at_call 13; (with_reducible refine (KN.out _ HDW.out).mono ?_); rintro e1 wx ⟨g', A', c2, L2, rfl, mo, hx⟩; dsimp only))
     refine hK.out _ _ ?_ fun hHeld => ?_
     ·(try dsimp only) <;> ((exact FSX.out _ _ hx (by simp) (by simp)))
     clear hK K
     try simp only [Act.put, pu1, pu2, pu3]
     refine rd1 op8 (by kernel_rfl) fun K hK => ?_
     go_simp
     ((go_at_call 23; (with_reducible refine (KF.out g' A' c2 L2 mo _ hx).mono ?_); rintro e2 wy ⟨rfl, hy⟩; dsimp only))
     refine hK.out _ _ ?_ fun hHeld => ?_
     ·(try dsimp only) <;> ((exact FSX.out _ _ hy (by simp) (by simp)))
     clear hK K
     try simp only [Act.put, pu1, pu2, pu3]
     refine tk op9 (v := ?_) (by kernel_rfl) ?_ (by assumption) ?_ fun _ _ _ h => h
     rotate_left
     ·(refine ya rfl fun w hSw => ?_; go_simp; rfl)
     try simp only [Act.put, pu1, pu2, pu3]
     refine wpAnyH_done (by kernel_rfl) ?_ _
     have HYW := Lib.hid hy
     clear hx hy s1 HDW mo KN KF
     cases fb with
     | true =>
      have HF := Lib.hid (FIN.out 0 wy ((g', .cells ((newM t tries).cells (.slice A' (filtN nms).length c2)) 71 (0, 0)) :: (L2 ++ ((g + 1, .cells #[.slice pA NS pc, .slice B en c'] 66 (0, 0)) :: L'))) (by rw [HR3.out, if_pos rfl]) (St.perm HYW.out (perm_count (fun i a => by simp only [List.count_append, List.count_cons, List.count_nil]; omega))))
      go_wp2_with fail
      go_ret
      exact HF.out
     | false =>
      have HF := Lib.hid (FIN.out 261 wy ((g', .cells ((newM t tries).cells (.slice A' (filtN nms).length c2)) 71 (0, 0)) :: (L2 ++ ((g + 1, .cells #[.slice pA NS pc, .slice B en c'] 66 (0, 0)) :: L'))) (by rw [HR3.out, if_neg (by decide)]) (St.perm HYW.out (perm_count (fun i a => by simp only [List.count_append, List.count_cons, List.count_nil]; omega))))
      go_wp2_with fail
      go_ret
      exact HF.out
end
end

section
set_option linter.unusedVariables false
set_option linter.unusedSimpArgs false
open Go.RowKit
def look (l : List (ByteArray × Value)) (k : ByteArray) : Option Value :=
 match l with
 | [] => none
 | (k', v) :: l => if k = k' then some v else look l k
def World.setB (w : World) (b : Nat) (o : Obj) : World := { w with heap := w.heap.setIfInBounds b o }
theorem St.setB {W w : World} {I : Nat → Option Obj} {D : Nat} {o o' : Obj} {L : List (Nat × Obj)} (h : St W w I ((D, o) :: L)) : St W (World.setB w D o') I ((D, o') :: L) := by
 have hn := h.nodup
 simp only [List.map_cons, List.nodup_cons] at hn
 have hlt := h.lt (p := (D, o)) (by simp)
 have hsame : (World.setB w D o').heap[D]? = some o' := by unfold World.setB; simp [Array.getElem?_setIfInBounds_self, hlt]
 have hoth : ∀ k, k ≠ D → (World.setB w D o').heap[k]? = w.heap[k]? := fun k hk => by unfold World.setB; simp [Array.getElem?_setIfInBounds_ne (Ne.symm hk)]
 refine ⟨h.os, h.tape, h.output, fun p hp => ?_, h.nodup, fun b o hb => ?_, fun p hp => ?_⟩
 ·rcases List.mem_cons.1 hp with rfl | hp
  ·exact hsame
  ·rw [hoth _ (fun e => hn.1 (by rw [← e]; exact List.mem_map_of_mem (f := (·.1)) hp))]
   exact h.own p (by simp [hp])
 ·rw [hoth _ (fun e => ?_)]
  ·exact h.imm b o hb
  ·have := h.apart (D, _) (List.mem_cons_self ..)
   simp only at this
   rw [e, this] at hb
   cases hb
 ·rcases List.mem_cons.1 hp with rfl | hp
  ·exact h.apart (D, o) (by simp)
  ·exact h.apart p (by simp [hp])
section
variable {P : Program} {t K E : TypeId} {w : World} {b : Nat} {l : List (ByteArray × Value)}
end
end

section
set_option linter.unusedVariables false
set_option linter.unusedSimpArgs false
open Go.RowKit
def lookI : List (Int × Int) → Int → Option Int
 | [], _ => none
 | (k', v) :: l, k => if k = k' then some v else lookI l k
def putI : List (Int × Int) → Int → Int → List (Int × Int)
 | [], k, v => [(k, v)]
 | (k', v') :: l, k, v => if k = k' then (k', v) :: l else (k', v') :: putI l k v
def lk (l : List (Int × Int)) (k : Int) : Int := (lookI l k).getD 0
theorem lookI_put : ∀ (l : List (Int × Int)) (k v k' : Int), lookI (putI l k v) k' = if k' = k then some v else lookI l k'
 | [], k, v, k' => by simp [putI, lookI]
 | (a, b) :: l, k, v, k' => by
  unfold putI
  by_cases h : k = a
  ·subst h
   rw [if_pos rfl]
   by_cases h2 : k' = k <;> simp [lookI, h2]
  ·rw [if_neg h]
   simp only [lookI]
   rw [lookI_put l k v k']
   by_cases h2 : k' = a
   ·subst h2
    rw [if_pos rfl, if_neg (fun e => h e.symm), if_pos rfl]
   ·rw [if_neg h2, if_neg h2]
def mapEntI : List (Int × Int) → Nat → List MapEntry
 | [], _ => []
 | (k, v) :: l, i => { key := .int .i64 k, val := .int .i64 v, born := i } :: mapEntI l (i + 1)
def mapObjI (l : List (Int × Int)) : Obj := .map (mapEntI l 0).toArray l.length
theorem mapEntI_new : ∀ (l : List (Int × Int)) (k v : Int) (i : Nat), lookI l k = none → mapEntI (putI l k v) i = mapEntI l i ++ [{ key := .int .i64 k, val := .int .i64 v, born := i + l.length }] ∧ (putI l k v).length = l.length + 1
 | [], k, v, i, _ => by simp [putI, mapEntI]
 | (a, b) :: l, k, v, i, h => by
  unfold lookI at h
  split at h
  ·cases h
  ·rename_i hn
   obtain ⟨h1, h2⟩ := mapEntI_new l k v (i + 1) h
   unfold putI
   rw [if_neg hn]
   simp only [mapEntI, List.length_cons, h1, h2, List.cons_append]
   refine ⟨?_, trivial⟩
   rw [show i + 1 + l.length = i + (l.length + 1) by omega]
theorem findI : ∀ (l : List (Int × Int)) (k : Int) (i j : Nat), (lookI l k = none → Instr.findNow (.int .i64) (.int .i64 k) (mapEntI l i) j = some none) ∧
  (∀ v, lookI l k = some v → ∃ n, Instr.findNow (.int .i64) (.int .i64 k) (mapEntI l i) j = some (some (j + n, .int .i64 v)) ∧ ((mapEntI l i)[n]?).map (fun e => e.key) = some (.int .i64 k) ∧ (∀ u, (mapEntI l i).modify n (fun e => { e with key := .int .i64 k, val := .int .i64 u }) = mapEntI (putI l k u) i ∧ (putI l k u).length = l.length))
 | [], k, i, j => ⟨fun _ => rfl, fun v h => by cases h⟩
 | (a, b) :: l, k, i, j => by
  obtain ⟨h1, h2⟩ := findI l k (i + 1) (j + 1)
  simp only [lookI, mapEntI, Instr.findNow, Instr.sameNow, if_true]
  by_cases h : k = a
  ·subst h
   rw [if_pos rfl]
   simp only [beq_self_eq_true]
   refine ⟨fun e => (by cases e), fun v e => ?_⟩
   cases e
   refine ⟨0, rfl, rfl, fun u => ⟨?_, ?_⟩⟩
   ·simp [putI, mapEntI]
   ·simp [putI]
  ·have hb : (k == a) = false := beq_eq_false_iff_ne.2 h
   rw [if_neg h, hb]
   refine ⟨h1, fun v e => ?_⟩
   obtain ⟨n, e1, e2, e3⟩ := h2 v e
   refine ⟨n + 1, by rw [show j + (n + 1) = j + 1 + n by omega]; exact e1, by simpa using e2, fun u => ?_⟩
   obtain ⟨e4, e5⟩ := e3 u
   unfold putI
   rw [if_neg h]
   refine ⟨?_, by simp [e5]⟩
   rw [List.modify_succ_cons, e4]
   rfl
theorem sameBits_int (k : Int) : Instr.sameBits 10000 (.int .i64 k) (.int .i64 k) = true := by
 rw [show (10000 : Nat) = 9999 + 1 from rfl]
 simp [Instr.sameBits]
section
variable {P : Program} {t K E : TypeId} {w : World} {b : Nat} {l : List (Int × Int)}
theorem run_checkKey_int {k : IntKind} (hK : P.underlying K = some (.int k)) (e : Bool) (n : Int) : (Instr.checkKey e 10000 K (.int k n)).run P w = .ok () w := by
 rw [show (10000 : Nat) = 9999 + 1 from rfl, Instr.checkKey]
 simp [Sem.run_bind, run_underlying hK, Result.andThen]
theorem run_mapUpdateI (ht : P.underlying t = some (.map K E)) (hK : P.underlying K = some (.int .i64)) (hb : w.heap[b]? = some (mapObjI l)) (k v : Int) :
  (Instr.mapUpdate t (.map (some b)) (.int .i64 k) (.int .i64 v)).run P w = .ok () (World.setB w b (mapObjI (putI l k v))) := by
 obtain ⟨h1, h2⟩ := findI l k 0 0
 unfold mapObjI at hb
 cases hl : lookI l k with
 | none =>
  have := h1 hl
  obtain ⟨e1, e2⟩ := mapEntI_new l k v 0 hl
  simp [Instr.mapUpdate, Sem.run_bind, run_underlying ht, getObj, Sem.run, hb, Result.andThen, run_checkKey_int hK, Instr.findKey, run_underlying hK, this]
  simp [setObj, Sem.run, World.setB, mapObjI, e1, e2, hb]
 | some u =>
  obtain ⟨n, hn, hkk, hm⟩ := h2 u hl
  obtain ⟨e1, e2⟩ := hm v
  rw [Nat.zero_add] at hn
  simp [Instr.mapUpdate, Sem.run_bind, run_underlying ht, getObj, Sem.run, hb, Result.andThen, run_checkKey_int hK, Instr.findKey, run_underlying hK, hn, Instr.keyThatStays, hkk, sameBits_int]
  simp [setObj, Sem.run, World.setB, mapObjI, e1, e2, hb]
end
end
end Go.Proofs.YtnjnooeldkideaaDoor
