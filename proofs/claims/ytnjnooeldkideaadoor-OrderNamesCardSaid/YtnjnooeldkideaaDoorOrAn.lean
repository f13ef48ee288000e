/- order: do calls and answers fit their entries? -/
import Derived.Test.YtnjnooeldkideaaDoorOrPm
import Derived.OwnWalk
import Derived.Deep.DeepCutAuto
import Derived.Test.YtnjnooeldkideaaDoorMOrT
namespace Go.Proofs.YtnjnooeldkideaaDoor
set_option linter.unusedVariables false
set_option linter.unusedSimpArgs false
open Go.RowKit Go.Lib Go.Deep
section
variable {W w : World} {J : Nat → Option Obj} {t : Tb} {F : List (Nat × Obj)}
variable {nA lA pA : Option Addr} {nc lc pc : Nat} {nms : List ByteArray} {es : List En} {ss : List Sp} {t : Tb}
def fitS (es : List En) (l : List (Int × Int)) (s : Sp) : Bool := match lookI l s.serial with
 | none => !decide (0 < s.upto)
 | some i => match es[i.toNat]? with
  | some e => eqC e.call s.call && (!decide (0 < s.upto) || eqRy e.rep s.rep)
  | none => false
def ansA (es : List En) (l : List (Int × Int)) : List Sp → Nat → List (Int × Int) → Option (List (Int × Int))
 | [], _, q => some q
 | s :: ss, k, q => if (lookI q s.serial).isSome = true then none else if fitS es l s = true then ansA es l ss (k + 1) (putI q s.serial k) else none
def ansB (q : List (Int × Int)) : List En → Bool
 | [] => true
 | e :: es => (if (lookI q e.serial).isSome = false ∧ e.kind = 1 then false else ansB q es)
def answeredM (es : List En) (ss : List Sp) (l : List (Int × Int)) : Bool := match ansA es l ss 0 [] with
 | some q => ansB q es
 | none => false
def MapIn (l : List (Int × Int)) (n : Nat) : Prop := ∀ k i, lookI l k = some i → 0 ≤ i ∧ i < n
set_option maxRecDepth 100000 in
set_option maxHeartbeats 16000000 in
theorem o_answered (tries : Int) (hy : HyOk W J F t nA nms tries lA es pA ss) (bm : Nat) (l : List (Int × Int)) (hl : MapIn l es.length) (h : St W w J ((bm, mapObjI l) :: F)) :
  Calls Tryd.prog 21 #[.agg (hyCells t (.slice nA nms.length nc) tries (.slice lA es.length lc) (.slice pA ss.length pc)), .map (some bm)] w fun e w' => e = .returned (.bool (answeredM es ss l)) ∧ St W w' J ((bm, mapObjI l) :: F) := by
 have h1 := h.alloc (.cells (hyCells t (.slice nA nms.length nc) tries (.slice lA es.length lc) (.slice pA ss.length pc)) 45)
 obtain ⟨g, hg⟩ : ∃ g, w.heap.size = g := ⟨_, rfl⟩
 rw [hg] at h1
 have hat := fun (v : World) (X : List (Nat × Obj)) (hv : St W v J X) (hx : (g, Obj.cells (hyCells t (.slice nA nms.length nc) tries (.slice lA es.length lc) (.slice pA ss.length pc)) 45 (0, 0)) ∈ X) => (⟨(hv.hy hy.tok hx).log, (hv.hy hy.tok hx).spans⟩ : v.cell? ⟨g, 77, none⟩ = some (.slice lA es.length lc) ∧ v.cell? ⟨g, 78, none⟩ = some (.slice pA ss.length pc))
 obtain ⟨HX, hHX⟩ : ∃ y, hyCells t (.slice nA nms.length nc) tries (.slice lA es.length lc) (.slice pA ss.length pc) = y := ⟨_, rfl⟩
 rw [hHX] at h1 hat ⊢
 have hsf := hy.sfew
 have hef := hy.efew
 have hmm := @run_makeMap Tryd.prog
 obtain ⟨R, hR⟩ : ∃ R, answeredM es ss l = R := ⟨_, rfl⟩
 rw [hR]
 unfold answeredM at hR
 obtain ⟨Z, hZ⟩ : ∃ Z, ansA es l ss 0 [] = Z := ⟨_, rfl⟩
 rw [hZ] at hR
 have fin : ∀ (z : Bool) (v : World) (D : List (Nat × Obj)), R = z → St W v J (D ++ ((g, .cells HX 45 (0, 0)) :: (bm, mapObjI l) :: F)) → (Ending.returned (.bool z) = .returned (.bool R) ∧ St W v J ((bm, mapObjI l) :: F)) := fun z v D hz hv => ⟨by rw [hz], hv.keep (D ++ [(g, .cells HX 45 (0, 0))]) (fun i a => by simp only [List.count_append, List.count_cons, List.count_nil]; omega)⟩
 obtain ⟨NS, hNS⟩ : ∃ y, ss.length = y := ⟨_, rfl⟩
 obtain ⟨NE, hNE⟩ : ∃ y, es.length = y := ⟨_, rfl⟩
 rw [hNS] at hat hsf
 rw [hNE] at hat hef hl
 have hsc := (h1.alloc (.map #[] 0))
 rw [World.size_alloc, hg] at hsc
 obtain ⟨gq, hgq⟩ : ∃ y, g + 1 = y := ⟨_, rfl⟩
 rw [hgq] at hsc
 obtain ⟨q77, q78⟩ := hat _ _ hsc (by simp)
 have H1 := Lib.hid hsc; have HAT := Lib.hid hat; have FIN := Lib.hid fin; have HR := Lib.hid hR; have HZ := Lib.hid hZ; have HY := Lib.hid hy; have HNS := Lib.hid hNS; have HNE := Lib.hid hNE; have HL := Lib.hid hl
 clear hsc h1 h hat fin hR hZ hy hNS hNE hHX hl
 go_enter Tryd.func21, Tryd.ntmps21
 go_wp2_with fail
 clear hmm q77 q78 hgq
 go_loopw [20] (fun v wr => ∃ (k : Nat) (q : List (Int × Int)), v = .int .i64 (k : Int) ∧ k ≤ NS ∧ ansA es l (ss.drop k) k q = Z ∧ St W wr J ((gq, mapObjI q) :: (g, .cells HX 45 (0, 0)) :: (bm, mapObjI l) :: F)) (fun v _ => NS - (intOf v).toNat)
 case atStart => exact ⟨0, [], rfl, by omega, HZ.out, H1.out⟩
 case round =>
  obtain ⟨k, q, rfl, hk, hpa, hst⟩ := hrel
  clear H1
  by_cases hkl : k < NS
  ·obtain ⟨x, hx⟩ : ∃ o, ss[k]? = some o := ⟨_, List.getElem?_eq_getElem (by rw [HNS.out]; exact hkl)⟩
   obtain ⟨Lp, hrd, hlp⟩ := HY.out.sp
   obtain ⟨b, off, rfl, hr⟩ := hrd.sp wr _ hst (fun p hp => by simp [hlp p hp]) k x hx
   have xok := HY.out.sok x (List.mem_of_getElem? hx)
   have xi := sp_info xok
   have xsz := Sp.size xok
   have xo := Sp.one x
   have h2 := hst.alloc (.cells Tryd.zeroCells40 40)
   rw [drop_cons hx] at hpa
   unfold ansA at hpa
   have hxa : ∀ (v : World) (X : List (Nat × Obj)) (b' : Nat), St W v J X → (b', Obj.cells x.cells 40 (0, 0)) ∈ X → v.cell? ⟨b', 0, none⟩ = some (.int .i64 x.serial) ∧ v.cell? ⟨b', 2, none⟩ = some (.int .i64 x.upto) ∧ v.rangeAt b' 3 x.call.cells.toList ∧ v.rangeAt b' 8 x.rep.cells.toList := fun v X b' hv hm => ⟨(hv.spAt xok hm).serial, (hv.spAt xok hm).upto, (hv.spAt xok hm).call, (hv.spAt xok hm).rep⟩
   obtain ⟨sr, hsr⟩ : ∃ y, x.serial = y := ⟨_, rfl⟩
   obtain ⟨up, hup⟩ : ∃ y, x.upto = y := ⟨_, rfl⟩
   have hfit : fitS es l x = match lookI l sr with
    | none => !decide (0 < up)
    | some i => match es[i.toNat]? with
     | some e => eqC e.call x.call && (!decide (0 < up) || eqRy e.rep x.rep)
     | none => false := by unfold fitS; rw [hsr, hup]
   rw [hsr] at hpa hxa
   rw [hup] at hxa
   obtain ⟨X, hX⟩ : ∃ X, x.cells = X := ⟨_, rfl⟩
   rw [hX] at hr xi xsz xo hxa
   have xfit : 0 + X.size ≤ Tryd.zeroCells40.size := by rw [xsz, zspan]; omega
   have xmany : setMany Tryd.zeroCells40 0 X.toList = X := by rw [setMany_whole _ _ (by rw [Array.length_toList, xsz, zspan]), Array.toArray_toList]
   have HR2 := Lib.hid hr; have XI := Lib.hid xi; have XO := Lib.hid xo; have XF := Lib.hid xfit; have XM := Lib.hid xmany; have H2 := Lib.hid h2; have HPA := Lib.hid hpa; have HXA := Lib.hid hxa; have HFIT := Lib.hid hfit; have XOK := Lib.hid xok
   clear hst hr xi xo xsz xfit xmany h2 hpa hxa hfit hx hX hsr hup hrd hlp xok
   go_wp2_with (first | (with_reducible refine wpList_load_midg 24 rfl (by kernel_rfl) 40 (.tmp 23) rfl b (off + k * 88) rfl X _ HR2.out Tryd.underlying40 rfl XI.out ?_) | (with_reducible refine wpList_store_st rfl 40 (.tmp 7) (.tmp 24) rfl (g := wr.heap.size) (off := 0) X rfl rfl H2.out XF.out XI.out XO.out ?_; intro w3 h3; refine Hid.out ?_))
   refine Lib.hid ?_
   rw [XM.out] at h3
   obtain ⟨gx, hgx⟩ : ∃ y, wr.heap.size = y := ⟨_, rfl⟩
   rw [hgx] at h3 ⊢
   obtain ⟨c0, c2, rc, rr⟩ := HXA.out _ _ gx h3 (List.mem_cons_self ..)
   have lq := map_look h3 (b := gq) (l := q) (by simp) sr
   cases hlq : lookI q sr with
   | some i =>
    rw [hlq] at lq
    simp only [Option.isSome_some] at lq
    have hres : R = false := by
     have q1 := HPA.out
     rw [hlq, Option.isSome_some, if_pos rfl] at q1
     have q2 := HR.out
     rw [← q1] at q2
     exact q2.symm
    have HF := Lib.hid (FIN.out false _ [(gx, .cells X 40 (0, 0)), (gq, mapObjI q)] hres (h3.perm (perm_count (fun i a => by simp only [List.count_append, List.count_cons, List.count_nil]; omega))))
    clear h3 H2 HR2 hgx hres hlq HPA HXA HFIT rc rr
    go_wp2_with fail
    go_ret
    exact HF.out
   | none =>
    rw [hlq] at lq
    simp only [Option.isSome_none] at lq
    obtain ⟨mu, h5⟩ := map_put (h3.perm (L' := (gq, mapObjI q) :: (gx, .cells X 40 (0, 0)) :: (g, .cells HX 45 (0, 0)) :: (bm, mapObjI l) :: F) (perm_count (fun i a => by simp only [List.count_append, List.count_cons, List.count_nil]; omega))) sr k
    have hpa2 : (if fitS es l x = true then ansA es l (ss.drop (k + 1)) (k + 1) (putI q sr k) else none) = Z := by
     have q1 := HPA.out
     rw [hlq] at q1
     simpa using q1
    have hno : fitS es l x = false → R = false := fun hf => by
     rw [hf] at hpa2
     have q2 := HR.out
     rw [← hpa2] at q2
     exact q2.symm
    have hyes : fitS es l x = true → ansA es l (ss.drop (k + 1)) (k + 1) (putI q sr k) = Z := fun hf => by rw [hf] at hpa2; exact hpa2
    obtain ⟨d0, d2, rc', rr'⟩ := HXA.out _ _ gx h5 (by simp)
    have la := map_look h5 (b := bm) (l := l) (by simp) sr
    have H5 := Lib.hid h5; have HNO := Lib.hid hno; have HYES := Lib.hid hyes; have RCX := Lib.hid rc'; have RRX := Lib.hid rr'
    obtain ⟨e77, -⟩ := HAT.out _ _ h5 (by simp)
    clear h3 h5 hno hyes hpa2 H2 HR2 hgx hlq HPA rc rr rc' rr'
    cases hla : lookI l sr with
    | none =>
     rw [hla] at la
     simp only [Option.isSome_none] at la
     have hf0 : fitS es l x = !decide (0 < up) := by rw [HFIT.out, hla]
     have HF0 := Lib.hid hf0
     clear hf0 hla HFIT HXA RCX RRX XOK
     by_cases h0 : 0 < up
     ·have b0 : decide (up > 0) = true := by simpa using h0
      have HF := Lib.hid (FIN.out false _ [(gq, mapObjI (putI q sr k)), (gx, .cells X 40 (0, 0))] (HNO.out (by rw [HF0.out]; simpa using h0)) H5.out)
      clear H5 HNO HYES HF0
      go_wp2_with fail
      go_ret
      exact HF.out
     ·have b0 : decide (up > 0) = false := by simpa using h0
      have hyes := HYES.out (by rw [HF0.out]; simpa using h0)
      have HYS := Lib.hid hyes
      clear hyes HYES HNO HF0
      go_wp2_with fail
      go_quiet (fail)
      generalize hw13 : World.drewN _ _ = w13
      have h14 : St W w13 J ((gq, mapObjI (putI q sr k)) :: (g, .cells HX 45 (0, 0)) :: (bm, mapObjI l) :: F) := by rw [← hw13]; exact (H5.out.drew _).keep [(gx, .cells X 40 (0, 0))] (fun i a => by simp only [List.count_append, List.count_cons, List.count_nil]; omega)
      clear hw13 H5 mu la d0 d2 e77
      have H14 := Lib.hid h14
      clear h14
      go_wp2_with fail
      go_roundw
      case rel => exact ⟨k + 1, putI q sr k, by go_num, by omega, HYS.out, H14.out⟩
      case measure => simp [intOf]; omega
    | some i =>
     obtain ⟨hi0, hi1⟩ := HL.out sr i hla
     obtain ⟨j, rfl⟩ : ∃ j : Nat, i = j := ⟨i.toNat, by omega⟩
     have hlk : lk l sr = (j : Int) := by unfold lk; rw [hla]; rfl
     rw [hla, hlk] at la
     simp only [Option.isSome_some] at la
     obtain ⟨e, he⟩ : ∃ o, es[j]? = some o := ⟨_, List.getElem?_eq_getElem (by rw [HNE.out]; omega)⟩
     obtain ⟨Le, hre, hle⟩ := HY.out.en
     obtain ⟨lb, loff, rfl, hrl⟩ := hre.en _ _ H5.out (fun p hp => by simp [hle p hp]) j e he
     have eok := HY.out.eok e (List.mem_of_getElem? he)
     have hf0 : fitS es l x = (eqC e.call x.call && (!decide (0 < up) || eqRy e.rep x.rep)) := by rw [HFIT.out, hla]; simp only [Int.toNat_natCast, he]
     have re := fun (v : World) (X' : List (Nat × Obj)) (hv : St W v J X') (hl' : ∀ p ∈ Le, p ∈ X') => (show v.rangeAt lb (loff + j * 126 + 2) e.call.cells.toList ∧ v.rangeAt lb (loff + j * 126 + 7) e.rep.cells.toList from by
      obtain ⟨b', o', q1, hc⟩ := hre.en v X' hv hl' j e he
      injection q1 with q1
      injection q1 with q2 q3
      subst q2 q3
      refine ⟨fun i u hi => ?_, fun i u hi => ?_⟩
      ·have hl2 : i < 5 := by have := (List.getElem?_eq_some_iff.1 hi).1; rw [Array.length_toList, Cl.size] at this; exact this
       have q4 := hc (2 + i) u (by rw [Array.getElem?_toList, En.gc e i hl2]; simpa using hi)
       rw [← Nat.add_assoc] at q4
       exact q4
      ·have hl2 : i < 80 := by have := (List.getElem?_eq_some_iff.1 hi).1; rw [Array.length_toList, Ry.size eok.rep.t] at this; exact this
       have q4 := hc (7 + i) u (by rw [Array.getElem?_toList, En.gr eok i hl2]; simpa using hi)
       rw [← Nat.add_assoc] at q4
       exact q4)
     have hec := fun v => eq_call e.call x.call v
     have her := run_eq_ry e.rep x.rep eok.rep XOK.out.rep
     have ci := cl_info e.call; have cx := cl_info x.call; have ri := ry_info eok.rep.t; have rx := ry_info XOK.out.rep.t
     have fsx := fun (v : World) (X' : List (Nat × Obj)) (hv : St W v J X') (h1 : (gx, .cells X 40 (0, 0)) ∈ X') (h2 : (g, .cells HX 45 (0, 0)) ∈ X') (h3 : ∀ p ∈ Le, p ∈ X') => (⟨(HAT.out v X' hv h2).1, (HXA.out v X' gx hv h1).2.1, (HXA.out v X' gx hv h1).2.2.1, (HXA.out v X' gx hv h1).2.2.2, (re v X' hv h3).1, (re v X' hv h3).2⟩ : v.cell? ⟨g, 77, none⟩ = some (.slice (some ⟨lb, loff, none⟩) NE lc) ∧ v.cell? ⟨gx, 2, none⟩ = some (.int .i64 up) ∧ v.rangeAt gx 3 x.call.cells.toList ∧ v.rangeAt gx 8 x.rep.cells.toList ∧ v.rangeAt lb (loff + j * 126 + 2) e.call.cells.toList ∧ v.rangeAt lb (loff + j * 126 + 7) e.rep.cells.toList)
     obtain ⟨cb, hcb⟩ : ∃ y, eqC e.call x.call = y := ⟨_, rfl⟩
     obtain ⟨rb, hrb⟩ : ∃ y, eqRy e.rep x.rep = y := ⟨_, rfl⟩
     rw [hcb] at hec hf0
     rw [hrb] at her hf0
     obtain ⟨EC, hEC⟩ : ∃ y, e.call.cells = y := ⟨_, rfl⟩
     obtain ⟨XC, hXC⟩ : ∃ y, x.call.cells = y := ⟨_, rfl⟩
     obtain ⟨ER, hER⟩ : ∃ y, e.rep.cells = y := ⟨_, rfl⟩
     obtain ⟨XR, hXR⟩ : ∃ y, x.rep.cells = y := ⟨_, rfl⟩
     rw [hEC] at hec ci fsx
     rw [hXC] at hec cx fsx
     rw [hER] at her ri fsx
     rw [hXR] at her rx fsx
     have FSX := Lib.hid fsx; have HF0 := Lib.hid hf0
     have CI : Hid ((Tryd.prog.info? 24).map (·.size) = some EC.toList.length) := Lib.hid (by rw [Array.length_toList]; exact ci)
     have CX : Hid ((Tryd.prog.info? 24).map (·.size) = some XC.toList.length) := Lib.hid (by rw [Array.length_toList]; exact cx)
     have RI : Hid ((Tryd.prog.info? 36).map (·.size) = some ER.toList.length) := Lib.hid (by rw [Array.length_toList]; exact ri)
     have RX : Hid ((Tryd.prog.info? 36).map (·.size) = some XR.toList.length) := Lib.hid (by rw [Array.length_toList]; exact rx)
     have HUC := Lib.hid Tryd.underlying24
     have HUR := Lib.hid Tryd.underlying36
     have HLE := Lib.hid (show ∀ p ∈ Le, p ∈ (gq, mapObjI (putI q sr k)) :: (gx, .cells X 40 (0, 0)) :: (g, .cells HX 45 (0, 0)) :: (bm, mapObjI l) :: F from fun p hp => by simp [hle p hp])
     have hjn : (j : Int) < NE := hi1
     clear hrl re fsx hf0 ci cx ri rx hla hlk he hre hle eok hEC hXC hER hXR hcb hrb HFIT HXA RCX RRX XOK hi0
     have HDW := Lib.hid H5.out.drew1
     have s1 := FSX.out _ _ HDW.out (by simp) (by simp) HLE.out
     cases cb with
     | false =>
      have HF := Lib.hid (fun (v : World) (hv : St W v J ((gq, mapObjI (putI q sr k)) :: (gx, .cells X 40 (0, 0)) :: (g, .cells HX 45 (0, 0)) :: (bm, mapObjI l) :: F)) => FIN.out false v [(gq, mapObjI (putI q sr k)), (gx, .cells X 40 (0, 0))] (HNO.out (by rw [HF0.out]; rfl)) hv)
      clear HNO HYES HF0
      go_wp2_with fail
      refine wp_region_held_drew (S := fun v => v.cell? ⟨g, 77, none⟩ = some (.slice (some ⟨lb, loff, none⟩) NE lc) ∧ v.cell? ⟨gx, 2, none⟩ = some (.int .i64 up) ∧ v.rangeAt gx 3 XC.toList ∧ v.rangeAt gx 8 XR.toList ∧ v.rangeAt lb (loff + j * 126 + 2) EC.toList ∧ v.rangeAt lb (loff + j * 126 + 7) ER.toList) (by kernel_rfl) s1 (fun hHeld => ?_)
      refine tk op0 (v := ?_) (by kernel_rfl) ?_ (by assumption) ?_ fun _ _ _ h => h
      rotate_left
      ·(refine ya rfl fun w hSw => ?_; go_simp; rfl)
      try simp only [Act.put, pu1, pu2, pu3]
      refine tk op1 (v := ?_) (by kernel_rfl) ?_ (by assumption) ?_ fun _ _ _ h => h
      rotate_left
      ·(refine ya rfl fun w hSw => ?_; go_simp; rfl)
      try simp only [Act.put, pu1, pu2, pu3]
      refine tk op2 (v := ?_) (by kernel_rfl) ?_ (by assumption) ?_ fun _ _ _ h => h
      rotate_left
      ·(refine ya rfl fun w hSw => ?_; go_simp; rfl)
      try simp only [Act.put, pu1, pu2, pu3]
      refine tk op3 (v := ?_) (by kernel_rfl) ?_ (by assumption) ?_ fun _ _ _ h => h
      rotate_left
      ·((refine Or.inl ⟨by rfl, ?_⟩; intro w hSw; obtain ⟨hS1, hS2, hS3, hS4, hS5, hS6⟩ := hSw; go_simp; try with_reducible rfl))
      try simp only [Act.put, pu1, pu2, pu3]
      refine tk op4 (v := ?_) (by kernel_rfl) ?_ (by assumption) ?_ fun _ _ _ h => h
      rotate_left
      ·(refine ya rfl fun w hSw => ?_; go_simp; rfl)
      try simp only [Act.put, pu1, pu2, pu3]
      refine tk op5 (v := ?_) (by kernel_rfl) ?_ (by assumption) ?_ fun _ _ _ h => h
      rotate_left
      ·(refine ya rfl fun w hSw => ?_; go_simp; rfl)
      try simp only [Act.put, pu1, pu2, pu3]
      refine tk op6 (v := ?_) (by kernel_rfl) ?_ (by assumption) ?_ fun _ _ _ h => h
      rotate_left
      ·(refine ya rfl fun w hSw => ?_; go_simp; rfl)
      try simp only [Act.put, pu1, pu2, pu3]
      refine tk op7 (v := ?_) (by kernel_rfl) ?_ (by assumption) ?_ fun _ _ _ h => h
      rotate_left
      ·(((refine yieldsIf_load_mid ?_ 24 (.tmp 57) ?_ lb (loff + j * 126 + 2) ?_ EC.toList _ ?_ HUC.out ?_ CI.out) <;> first | rfl | exact fun w h => h.2.2.2.2.1))
      try simp only [Act.put, pu1, pu2, pu3]
      refine tk op8 (v := ?_) (by kernel_rfl) ?_ (by assumption) ?_ fun _ _ _ h => h
      rotate_left
      ·(refine ya rfl fun w hSw => ?_; go_simp; rfl)
      try simp only [Act.put, pu1, pu2, pu3]
      refine tk op9 (v := ?_) (by kernel_rfl) ?_ (by assumption) ?_ fun _ _ _ h => h
      rotate_left
      ·(((refine yieldsIf_load_mid ?_ 24 (.tmp 59) ?_ gx 3 ?_ XC.toList _ ?_ HUC.out ?_ CX.out) <;> first | rfl | exact fun w h => h.2.2.1))
      try simp only [Act.put, pu1, pu2, pu3]
      refine tk (oq op0) (v := ?_) (by kernel_rfl) ?_ (by assumption) ?_ fun _ _ _ h => h
      rotate_left
      ·(refine ya rfl fun w hSw => ?_; go_simp; rfl)
      try simp only [Act.put, pu1, pu2, pu3]
      refine tk (oq op1) (v := ?_) (by kernel_rfl) ?_ (by assumption) ?_ fun _ _ _ h => h
      rotate_left
      ·(refine ya rfl fun w hSw => ?_; go_simp; rfl)
      try simp only [Act.put, pu1, pu2, pu3]
      refine tk (oq op2) (v := ?_) (by kernel_rfl) ?_ (by assumption) ?_ fun _ _ _ h => h
      rotate_left
      ·(refine Or.inr ⟨by rfl, ?_⟩; rfl)
      try simp only [Act.put, pu1, pu2, pu3]
      refine tk (oq op3) (v := ?_) (by kernel_rfl) ?_ (by assumption) ?_ fun _ _ _ h => h
      rotate_left
      ·(refine Or.inr ⟨by rfl, ?_⟩; rfl)
      try simp only [Act.put, pu1, pu2, pu3]
      refine tk (oq op4) (v := ?_) (by kernel_rfl) ?_ (by assumption) ?_ fun _ _ _ h => h
      rotate_left
      ·(refine Or.inr ⟨by rfl, ?_⟩; rfl)
      try simp only [Act.put, pu1, pu2, pu3]
      refine tk (oq op5) (v := ?_) (by kernel_rfl) ?_ (by assumption) ?_ fun _ _ _ h => h
      rotate_left
      ·(refine Or.inr ⟨by rfl, ?_⟩; rfl)
      try simp only [Act.put, pu1, pu2, pu3]
      refine tk (oq op6) (v := ?_) (by kernel_rfl) ?_ (by assumption) ?_ fun _ _ _ h => h
      rotate_left
      ·(refine Or.inr ⟨by rfl, ?_⟩; rfl)
      try simp only [Act.put, pu1, pu2, pu3]
      refine tk (oq op7) (v := ?_) (by kernel_rfl) ?_ (by assumption) ?_ fun _ _ _ h => h
      rotate_left
      ·(refine Or.inr ⟨by rfl, ?_⟩; rfl)
      try simp only [Act.put, pu1, pu2, pu3]
      refine tk (oq op8) (v := ?_) (by kernel_rfl) ?_ (by assumption) ?_ fun _ _ _ h => h
      rotate_left
      ·(refine Or.inr ⟨by rfl, ?_⟩; rfl)
      try simp only [Act.put, pu1, pu2, pu3]
      refine tk (oq op9) (v := ?_) (by kernel_rfl) ?_ (by assumption) ?_ fun _ _ _ h => h
      rotate_left
      ·(refine Or.inr ⟨by rfl, ?_⟩; rfl)
      try simp only [Act.put, pu1, pu2, pu3]
      refine tk (oq (oq op0)) (v := ?_) (by kernel_rfl) ?_ (by assumption) ?_ fun _ _ _ h => h
      rotate_left
      ·(refine Or.inr ⟨by rfl, ?_⟩; rfl)
      try simp only [Act.put, pu1, pu2, pu3]
      refine tk (oq (oq op1)) (v := ?_) (by kernel_rfl) ?_ (by assumption) ?_ fun _ _ _ h => h
      rotate_left
      ·(refine Or.inr ⟨by rfl, ?_⟩; rfl)
      try simp only [Act.put, pu1, pu2, pu3]
      refine tk (oq (oq op2)) (v := ?_) (by kernel_rfl) ?_ (by assumption) ?_ fun _ _ _ h => h
      rotate_left
      ·(refine Or.inr ⟨by rfl, ?_⟩; rfl)
      try simp only [Act.put, pu1, pu2, pu3]
      refine tk (oq (oq op3)) (v := ?_) (by kernel_rfl) ?_ (by assumption) ?_ fun _ _ _ h => h
      rotate_left
      ·(refine Or.inr ⟨by rfl, ?_⟩; rfl)
      try simp only [Act.put, pu1, pu2, pu3]
      refine tk (oq (oq op4)) (v := ?_) (by kernel_rfl) ?_ (by assumption) ?_ fun _ _ _ h => h
      rotate_left
      ·(refine Or.inr ⟨by rfl, ?_⟩; rfl)
      try simp only [Act.put, pu1, pu2, pu3]
      refine tk (oq (oq op5)) (v := ?_) (by kernel_rfl) ?_ (by assumption) ?_ fun _ _ _ h => h
      rotate_left
      ·(refine Or.inr ⟨by rfl, ?_⟩; rfl)
      try simp only [Act.put, pu1, pu2, pu3]
      refine tk (oq (oq op6)) (v := ?_) (by kernel_rfl) ?_ (by assumption) ?_ fun _ _ _ h => h
      rotate_left
      ·(refine ya rfl fun w hSw => ?_; go_simp; rfl)
      try simp only [Act.put, pu1, pu2, pu3]
      refine tk (oq (oq op7)) (v := ?_) (by kernel_rfl) ?_ (by assumption) ?_ fun _ _ _ h => h
      rotate_left
      ·(refine ya rfl fun w hSw => ?_; go_simp; rfl)
      try simp only [Act.put, pu1, pu2, pu3]
      refine wpAnyH_done (by kernel_rfl) ?_ _
      have HX := Lib.hid (HF.out _ HDW.out)
      clear HF HDW s1 H5 FSX
      go_wp2_with fail
      go_ret
      exact HX.out
     | true =>
      by_cases h0 : 0 < up
      ·have b0 : decide (up > 0) = true := by simpa using h0
       cases rb with
       | false =>
        have HF := Lib.hid (fun (v : World) (hv : St W v J ((gq, mapObjI (putI q sr k)) :: (gx, .cells X 40 (0, 0)) :: (g, .cells HX 45 (0, 0)) :: (bm, mapObjI l) :: F)) => FIN.out false v [(gq, mapObjI (putI q sr k)), (gx, .cells X 40 (0, 0))] (HNO.out (by rw [HF0.out, show decide (0 < up) = true by simpa using h0]; rfl)) hv)
        clear HNO HYES HF0
        go_wp2_with fail
        refine wp_region_held_drew (S := fun v => v.cell? ⟨g, 77, none⟩ = some (.slice (some ⟨lb, loff, none⟩) NE lc) ∧ v.cell? ⟨gx, 2, none⟩ = some (.int .i64 up) ∧ v.rangeAt gx 3 XC.toList ∧ v.rangeAt gx 8 XR.toList ∧ v.rangeAt lb (loff + j * 126 + 2) EC.toList ∧ v.rangeAt lb (loff + j * 126 + 7) ER.toList) (by kernel_rfl) s1 (fun hHeld => ?_)
        refine tk op0 (v := ?_) (by kernel_rfl) ?_ (by assumption) ?_ fun _ _ _ h => h
        rotate_left
        ·(refine ya rfl fun w hSw => ?_; go_simp; rfl)
        try simp only [Act.put, pu1, pu2, pu3]
        refine tk op1 (v := ?_) (by kernel_rfl) ?_ (by assumption) ?_ fun _ _ _ h => h
        rotate_left
        ·(refine ya rfl fun w hSw => ?_; go_simp; rfl)
        try simp only [Act.put, pu1, pu2, pu3]
        refine tk op2 (v := ?_) (by kernel_rfl) ?_ (by assumption) ?_ fun _ _ _ h => h
        rotate_left
        ·(refine ya rfl fun w hSw => ?_; go_simp; rfl)
        try simp only [Act.put, pu1, pu2, pu3]
        refine tk op3 (v := ?_) (by kernel_rfl) ?_ (by assumption) ?_ fun _ _ _ h => h
        rotate_left
        ·((refine Or.inl ⟨by rfl, ?_⟩; intro w hSw; obtain ⟨hS1, hS2, hS3, hS4, hS5, hS6⟩ := hSw; go_simp; try with_reducible rfl))
        try simp only [Act.put, pu1, pu2, pu3]
        refine tk op4 (v := ?_) (by kernel_rfl) ?_ (by assumption) ?_ fun _ _ _ h => h
        rotate_left
        ·(refine ya rfl fun w hSw => ?_; go_simp; rfl)
        try simp only [Act.put, pu1, pu2, pu3]
        refine tk op5 (v := ?_) (by kernel_rfl) ?_ (by assumption) ?_ fun _ _ _ h => h
        rotate_left
        ·(refine ya rfl fun w hSw => ?_; go_simp; rfl)
        try simp only [Act.put, pu1, pu2, pu3]
        refine tk op6 (v := ?_) (by kernel_rfl) ?_ (by assumption) ?_ fun _ _ _ h => h
        rotate_left
        ·(refine ya rfl fun w hSw => ?_; go_simp; rfl)
        try simp only [Act.put, pu1, pu2, pu3]
        refine tk op7 (v := ?_) (by kernel_rfl) ?_ (by assumption) ?_ fun _ _ _ h => h
        rotate_left
        ·(((refine yieldsIf_load_mid ?_ 24 (.tmp 57) ?_ lb (loff + j * 126 + 2) ?_ EC.toList _ ?_ HUC.out ?_ CI.out) <;> first | rfl | exact fun w h => h.2.2.2.2.1))
        try simp only [Act.put, pu1, pu2, pu3]
        refine tk op8 (v := ?_) (by kernel_rfl) ?_ (by assumption) ?_ fun _ _ _ h => h
        rotate_left
        ·(refine ya rfl fun w hSw => ?_; go_simp; rfl)
        try simp only [Act.put, pu1, pu2, pu3]
        refine tk op9 (v := ?_) (by kernel_rfl) ?_ (by assumption) ?_ fun _ _ _ h => h
        rotate_left
        ·(((refine yieldsIf_load_mid ?_ 24 (.tmp 59) ?_ gx 3 ?_ XC.toList _ ?_ HUC.out ?_ CX.out) <;> first | rfl | exact fun w h => h.2.2.1))
        try simp only [Act.put, pu1, pu2, pu3]
        refine tk (oq op0) (v := ?_) (by kernel_rfl) ?_ (by assumption) ?_ fun _ _ _ h => h
        rotate_left
        ·(refine ya rfl fun w hSw => ?_; go_simp; rfl)
        try simp only [Act.put, pu1, pu2, pu3]
        refine tk (oq op1) (v := ?_) (by kernel_rfl) ?_ (by assumption) ?_ fun _ _ _ h => h
        rotate_left
        ·(refine ya rfl fun w hSw => ?_; go_simp; rfl)
        try simp only [Act.put, pu1, pu2, pu3]
        refine tk (oq op2) (v := ?_) (by kernel_rfl) ?_ (by assumption) ?_ fun _ _ _ h => h
        rotate_left
        ·(refine ya rfl fun w hSw => ?_; go_simp; rfl)
        try simp only [Act.put, pu1, pu2, pu3]
        refine tk (oq op3) (v := ?_) (by kernel_rfl) ?_ (by assumption) ?_ fun _ _ _ h => h
        rotate_left
        ·((refine Or.inl ⟨by rfl, ?_⟩; intro w hSw; obtain ⟨hS1, hS2, hS3, hS4, hS5, hS6⟩ := hSw; go_simp; try with_reducible rfl))
        try simp only [Act.put, pu1, pu2, pu3]
        refine tk (oq op4) (v := ?_) (by kernel_rfl) ?_ (by assumption) ?_ fun _ _ _ h => h
        rotate_left
        ·(refine ya rfl fun w hSw => ?_; go_simp; rfl)
        try simp only [Act.put, pu1, pu2, pu3]
        refine tk (oq op5) (v := ?_) (by kernel_rfl) ?_ (by assumption) ?_ fun _ _ _ h => h
        rotate_left
        ·(refine ya rfl fun w hSw => ?_; go_simp; rfl)
        try simp only [Act.put, pu1, pu2, pu3]
        refine tk (oq op6) (v := ?_) (by kernel_rfl) ?_ (by assumption) ?_ fun _ _ _ h => h
        rotate_left
        ·(refine ya rfl fun w hSw => ?_; go_simp; rfl)
        try simp only [Act.put, pu1, pu2, pu3]
        refine tk (oq op7) (v := ?_) (by kernel_rfl) ?_ (by assumption) ?_ fun _ _ _ h => h
        rotate_left
        ·((refine Or.inl ⟨by rfl, ?_⟩; intro w hSw; obtain ⟨hS1, hS2, hS3, hS4, hS5, hS6⟩ := hSw; go_simp; try with_reducible rfl))
        try simp only [Act.put, pu1, pu2, pu3]
        refine tk (oq op8) (v := ?_) (by kernel_rfl) ?_ (by assumption) ?_ fun _ _ _ h => h
        rotate_left
        ·(refine ya rfl fun w hSw => ?_; go_simp; rfl)
        try simp only [Act.put, pu1, pu2, pu3]
        refine tk (oq op9) (v := ?_) (by kernel_rfl) ?_ (by assumption) ?_ fun _ _ _ h => h
        rotate_left
        ·(refine ya rfl fun w hSw => ?_; go_simp; rfl)
        try simp only [Act.put, pu1, pu2, pu3]
        refine tk (oq (oq op0)) (v := ?_) (by kernel_rfl) ?_ (by assumption) ?_ fun _ _ _ h => h
        rotate_left
        ·(refine ya rfl fun w hSw => ?_; go_simp; rfl)
        try simp only [Act.put, pu1, pu2, pu3]
        refine tk (oq (oq op1)) (v := ?_) (by kernel_rfl) ?_ (by assumption) ?_ fun _ _ _ h => h
        rotate_left
        ·(((refine yieldsIf_load_mid ?_ 36 (.tmp 71) ?_ lb (loff + j * 126 + 7) ?_ ER.toList _ ?_ HUR.out ?_ RI.out) <;> first | rfl | exact fun w h => h.2.2.2.2.2))
        try simp only [Act.put, pu1, pu2, pu3]
        refine tk (oq (oq op2)) (v := ?_) (by kernel_rfl) ?_ (by assumption) ?_ fun _ _ _ h => h
        rotate_left
        ·(refine ya rfl fun w hSw => ?_; go_simp; rfl)
        try simp only [Act.put, pu1, pu2, pu3]
        refine tk (oq (oq op3)) (v := ?_) (by kernel_rfl) ?_ (by assumption) ?_ fun _ _ _ h => h
        rotate_left
        ·(((refine yieldsIf_load_mid ?_ 36 (.tmp 73) ?_ gx 8 ?_ XR.toList _ ?_ HUR.out ?_ RX.out) <;> first | rfl | exact fun w h => h.2.2.2.1))
        try simp only [Act.put, pu1, pu2, pu3]
        refine tk (oq (oq op4)) (v := ?_) (by kernel_rfl) ?_ (by assumption) ?_ fun _ _ _ h => h
        rotate_left
        ·(refine ya rfl fun w hSw => ?_; go_simp; rfl)
        try simp only [Act.put, pu1, pu2, pu3]
        refine tk (oq (oq op5)) (v := ?_) (by kernel_rfl) ?_ (by assumption) ?_ fun _ _ _ h => h
        rotate_left
        ·(refine ya rfl fun w hSw => ?_; go_simp; rfl)
        try simp only [Act.put, pu1, pu2, pu3]
        refine tk (oq (oq op6)) (v := ?_) (by kernel_rfl) ?_ (by assumption) ?_ fun _ _ _ h => h
        rotate_left
        ·(refine ya rfl fun w hSw => ?_; go_simp; rfl)
        try simp only [Act.put, pu1, pu2, pu3]
        refine tk (oq (oq op7)) (v := ?_) (by kernel_rfl) ?_ (by assumption) ?_ fun _ _ _ h => h
        rotate_left
        ·(refine ya rfl fun w hSw => ?_; go_simp; rfl)
        try simp only [Act.put, pu1, pu2, pu3]
        refine wpAnyH_done (by kernel_rfl) ?_ _
        have HX := Lib.hid (HF.out _ HDW.out)
        clear HF HDW s1 H5 FSX
        go_wp2_with fail
        go_ret
        exact HX.out
       | true =>
        have HYS := Lib.hid (HYES.out (by rw [HF0.out]; simp))
        clear HNO HYES HF0
        go_wp2_with fail
        refine wp_region_held_drew (S := fun v => v.cell? ⟨g, 77, none⟩ = some (.slice (some ⟨lb, loff, none⟩) NE lc) ∧ v.cell? ⟨gx, 2, none⟩ = some (.int .i64 up) ∧ v.rangeAt gx 3 XC.toList ∧ v.rangeAt gx 8 XR.toList ∧ v.rangeAt lb (loff + j * 126 + 2) EC.toList ∧ v.rangeAt lb (loff + j * 126 + 7) ER.toList) (by kernel_rfl) s1 (fun hHeld => ?_)
        refine tk op0 (v := ?_) (by kernel_rfl) ?_ (by assumption) ?_ fun _ _ _ h => h
        rotate_left
        ·(refine ya rfl fun w hSw => ?_; go_simp; rfl)
        try simp only [Act.put, pu1, pu2, pu3]
        refine tk op1 (v := ?_) (by kernel_rfl) ?_ (by assumption) ?_ fun _ _ _ h => h
        rotate_left
        ·(refine ya rfl fun w hSw => ?_; go_simp; rfl)
        try simp only [Act.put, pu1, pu2, pu3]
        refine tk op2 (v := ?_) (by kernel_rfl) ?_ (by assumption) ?_ fun _ _ _ h => h
        rotate_left
        ·(refine ya rfl fun w hSw => ?_; go_simp; rfl)
        try simp only [Act.put, pu1, pu2, pu3]
        refine tk op3 (v := ?_) (by kernel_rfl) ?_ (by assumption) ?_ fun _ _ _ h => h
        rotate_left
        ·((refine Or.inl ⟨by rfl, ?_⟩; intro w hSw; obtain ⟨hS1, hS2, hS3, hS4, hS5, hS6⟩ := hSw; go_simp; try with_reducible rfl))
        try simp only [Act.put, pu1, pu2, pu3]
        refine tk op4 (v := ?_) (by kernel_rfl) ?_ (by assumption) ?_ fun _ _ _ h => h
        rotate_left
        ·(refine ya rfl fun w hSw => ?_; go_simp; rfl)
        try simp only [Act.put, pu1, pu2, pu3]
        refine tk op5 (v := ?_) (by kernel_rfl) ?_ (by assumption) ?_ fun _ _ _ h => h
        rotate_left
        ·(refine ya rfl fun w hSw => ?_; go_simp; rfl)
        try simp only [Act.put, pu1, pu2, pu3]
        refine tk op6 (v := ?_) (by kernel_rfl) ?_ (by assumption) ?_ fun _ _ _ h => h
        rotate_left
        ·(refine ya rfl fun w hSw => ?_; go_simp; rfl)
        try simp only [Act.put, pu1, pu2, pu3]
        refine tk op7 (v := ?_) (by kernel_rfl) ?_ (by assumption) ?_ fun _ _ _ h => h
        rotate_left
        ·(((refine yieldsIf_load_mid ?_ 24 (.tmp 57) ?_ lb (loff + j * 126 + 2) ?_ EC.toList _ ?_ HUC.out ?_ CI.out) <;> first | rfl | exact fun w h => h.2.2.2.2.1))
        try simp only [Act.put, pu1, pu2, pu3]
        refine tk op8 (v := ?_) (by kernel_rfl) ?_ (by assumption) ?_ fun _ _ _ h => h
        rotate_left
        ·(refine ya rfl fun w hSw => ?_; go_simp; rfl)
        try simp only [Act.put, pu1, pu2, pu3]
        refine tk op9 (v := ?_) (by kernel_rfl) ?_ (by assumption) ?_ fun _ _ _ h => h
        rotate_left
        ·(((refine yieldsIf_load_mid ?_ 24 (.tmp 59) ?_ gx 3 ?_ XC.toList _ ?_ HUC.out ?_ CX.out) <;> first | rfl | exact fun w h => h.2.2.1))
        try simp only [Act.put, pu1, pu2, pu3]
        refine tk (oq op0) (v := ?_) (by kernel_rfl) ?_ (by assumption) ?_ fun _ _ _ h => h
        rotate_left
        ·(refine ya rfl fun w hSw => ?_; go_simp; rfl)
        try simp only [Act.put, pu1, pu2, pu3]
        refine tk (oq op1) (v := ?_) (by kernel_rfl) ?_ (by assumption) ?_ fun _ _ _ h => h
        rotate_left
        ·(refine ya rfl fun w hSw => ?_; go_simp; rfl)
        try simp only [Act.put, pu1, pu2, pu3]
        refine tk (oq op2) (v := ?_) (by kernel_rfl) ?_ (by assumption) ?_ fun _ _ _ h => h
        rotate_left
        ·(refine ya rfl fun w hSw => ?_; go_simp; rfl)
        try simp only [Act.put, pu1, pu2, pu3]
        refine tk (oq op3) (v := ?_) (by kernel_rfl) ?_ (by assumption) ?_ fun _ _ _ h => h
        rotate_left
        ·((refine Or.inl ⟨by rfl, ?_⟩; intro w hSw; obtain ⟨hS1, hS2, hS3, hS4, hS5, hS6⟩ := hSw; go_simp; try with_reducible rfl))
        try simp only [Act.put, pu1, pu2, pu3]
        refine tk (oq op4) (v := ?_) (by kernel_rfl) ?_ (by assumption) ?_ fun _ _ _ h => h
        rotate_left
        ·(refine ya rfl fun w hSw => ?_; go_simp; rfl)
        try simp only [Act.put, pu1, pu2, pu3]
        refine tk (oq op5) (v := ?_) (by kernel_rfl) ?_ (by assumption) ?_ fun _ _ _ h => h
        rotate_left
        ·(refine ya rfl fun w hSw => ?_; go_simp; rfl)
        try simp only [Act.put, pu1, pu2, pu3]
        refine tk (oq op6) (v := ?_) (by kernel_rfl) ?_ (by assumption) ?_ fun _ _ _ h => h
        rotate_left
        ·(refine ya rfl fun w hSw => ?_; go_simp; rfl)
        try simp only [Act.put, pu1, pu2, pu3]
        refine tk (oq op7) (v := ?_) (by kernel_rfl) ?_ (by assumption) ?_ fun _ _ _ h => h
        rotate_left
        ·((refine Or.inl ⟨by rfl, ?_⟩; intro w hSw; obtain ⟨hS1, hS2, hS3, hS4, hS5, hS6⟩ := hSw; go_simp; try with_reducible rfl))
        try simp only [Act.put, pu1, pu2, pu3]
        refine tk (oq op8) (v := ?_) (by kernel_rfl) ?_ (by assumption) ?_ fun _ _ _ h => h
        rotate_left
        ·(refine ya rfl fun w hSw => ?_; go_simp; rfl)
        try simp only [Act.put, pu1, pu2, pu3]
        refine tk (oq op9) (v := ?_) (by kernel_rfl) ?_ (by assumption) ?_ fun _ _ _ h => h
        rotate_left
        ·(refine ya rfl fun w hSw => ?_; go_simp; rfl)
        try simp only [Act.put, pu1, pu2, pu3]
        refine tk (oq (oq op0)) (v := ?_) (by kernel_rfl) ?_ (by assumption) ?_ fun _ _ _ h => h
        rotate_left
        ·(refine ya rfl fun w hSw => ?_; go_simp; rfl)
        try simp only [Act.put, pu1, pu2, pu3]
        refine tk (oq (oq op1)) (v := ?_) (by kernel_rfl) ?_ (by assumption) ?_ fun _ _ _ h => h
        rotate_left
        ·(((refine yieldsIf_load_mid ?_ 36 (.tmp 71) ?_ lb (loff + j * 126 + 7) ?_ ER.toList _ ?_ HUR.out ?_ RI.out) <;> first | rfl | exact fun w h => h.2.2.2.2.2))
        try simp only [Act.put, pu1, pu2, pu3]
        refine tk (oq (oq op2)) (v := ?_) (by kernel_rfl) ?_ (by assumption) ?_ fun _ _ _ h => h
        rotate_left
        ·(refine ya rfl fun w hSw => ?_; go_simp; rfl)
        try simp only [Act.put, pu1, pu2, pu3]
        refine tk (oq (oq op3)) (v := ?_) (by kernel_rfl) ?_ (by assumption) ?_ fun _ _ _ h => h
        rotate_left
        ·(((refine yieldsIf_load_mid ?_ 36 (.tmp 73) ?_ gx 8 ?_ XR.toList _ ?_ HUR.out ?_ RX.out) <;> first | rfl | exact fun w h => h.2.2.2.1))
        try simp only [Act.put, pu1, pu2, pu3]
        refine tk (oq (oq op4)) (v := ?_) (by kernel_rfl) ?_ (by assumption) ?_ fun _ _ _ h => h
        rotate_left
        ·(refine ya rfl fun w hSw => ?_; go_simp; rfl)
        try simp only [Act.put, pu1, pu2, pu3]
        refine tk (oq (oq op5)) (v := ?_) (by kernel_rfl) ?_ (by assumption) ?_ fun _ _ _ h => h
        rotate_left
        ·(refine ya rfl fun w hSw => ?_; go_simp; rfl)
        try simp only [Act.put, pu1, pu2, pu3]
        refine tk (oq (oq op6)) (v := ?_) (by kernel_rfl) ?_ (by assumption) ?_ fun _ _ _ h => h
        rotate_left
        ·(refine ya rfl fun w hSw => ?_; go_simp; rfl)
        try simp only [Act.put, pu1, pu2, pu3]
        refine tk (oq (oq op7)) (v := ?_) (by kernel_rfl) ?_ (by assumption) ?_ fun _ _ _ h => h
        rotate_left
        ·(refine ya rfl fun w hSw => ?_; go_simp; rfl)
        try simp only [Act.put, pu1, pu2, pu3]
        refine wpAnyH_done (by kernel_rfl) ?_ _
        have HX := Lib.hid (HDW.out.keep (M := (gq, mapObjI (putI q sr k)) :: (g, .cells HX 45 (0, 0)) :: (bm, mapObjI l) :: F) [(gx, .cells X 40 (0, 0))] (fun i a => by simp only [List.count_append, List.count_cons, List.count_nil]; omega))
        clear HDW s1 H5 FSX mu la
        go_wp2_with fail
        go_roundw
        case rel => exact ⟨k + 1, putI q sr k, by go_num, by omega, HYS.out, HX.out⟩
        case measure => simp [intOf]; omega
      ·have b0 : decide (up > 0) = false := by simpa using h0
       have HYS := Lib.hid (HYES.out (by rw [HF0.out, show decide (0 < up) = false by simpa using h0]; rfl))
       clear HNO HYES HF0
       go_wp2_with fail
       refine wp_region_held_drew (S := fun v => v.cell? ⟨g, 77, none⟩ = some (.slice (some ⟨lb, loff, none⟩) NE lc) ∧ v.cell? ⟨gx, 2, none⟩ = some (.int .i64 up) ∧ v.rangeAt gx 3 XC.toList ∧ v.rangeAt gx 8 XR.toList ∧ v.rangeAt lb (loff + j * 126 + 2) EC.toList ∧ v.rangeAt lb (loff + j * 126 + 7) ER.toList) (by kernel_rfl) s1 (fun hHeld => ?_)
       refine tk op0 (v := ?_) (by kernel_rfl) ?_ (by assumption) ?_ fun _ _ _ h => h
       rotate_left
       ·(refine ya rfl fun w hSw => ?_; go_simp; rfl)
       try simp only [Act.put, pu1, pu2, pu3]
       refine tk op1 (v := ?_) (by kernel_rfl) ?_ (by assumption) ?_ fun _ _ _ h => h
       rotate_left
       ·(refine ya rfl fun w hSw => ?_; go_simp; rfl)
       try simp only [Act.put, pu1, pu2, pu3]
       refine tk op2 (v := ?_) (by kernel_rfl) ?_ (by assumption) ?_ fun _ _ _ h => h
       rotate_left
       ·(refine ya rfl fun w hSw => ?_; go_simp; rfl)
       try simp only [Act.put, pu1, pu2, pu3]
       refine tk op3 (v := ?_) (by kernel_rfl) ?_ (by assumption) ?_ fun _ _ _ h => h
       rotate_left
       ·((refine Or.inl ⟨by rfl, ?_⟩; intro w hSw; obtain ⟨hS1, hS2, hS3, hS4, hS5, hS6⟩ := hSw; go_simp; try with_reducible rfl))
       try simp only [Act.put, pu1, pu2, pu3]
       refine tk op4 (v := ?_) (by kernel_rfl) ?_ (by assumption) ?_ fun _ _ _ h => h
       rotate_left
       ·(refine ya rfl fun w hSw => ?_; go_simp; rfl)
       try simp only [Act.put, pu1, pu2, pu3]
       refine tk op5 (v := ?_) (by kernel_rfl) ?_ (by assumption) ?_ fun _ _ _ h => h
       rotate_left
       ·(refine ya rfl fun w hSw => ?_; go_simp; rfl)
       try simp only [Act.put, pu1, pu2, pu3]
       refine tk op6 (v := ?_) (by kernel_rfl) ?_ (by assumption) ?_ fun _ _ _ h => h
       rotate_left
       ·(refine ya rfl fun w hSw => ?_; go_simp; rfl)
       try simp only [Act.put, pu1, pu2, pu3]
       refine tk op7 (v := ?_) (by kernel_rfl) ?_ (by assumption) ?_ fun _ _ _ h => h
       rotate_left
       ·(((refine yieldsIf_load_mid ?_ 24 (.tmp 57) ?_ lb (loff + j * 126 + 2) ?_ EC.toList _ ?_ HUC.out ?_ CI.out) <;> first | rfl | exact fun w h => h.2.2.2.2.1))
       try simp only [Act.put, pu1, pu2, pu3]
       refine tk op8 (v := ?_) (by kernel_rfl) ?_ (by assumption) ?_ fun _ _ _ h => h
       rotate_left
       ·(refine ya rfl fun w hSw => ?_; go_simp; rfl)
       try simp only [Act.put, pu1, pu2, pu3]
       refine tk op9 (v := ?_) (by kernel_rfl) ?_ (by assumption) ?_ fun _ _ _ h => h
       rotate_left
       ·(((refine yieldsIf_load_mid ?_ 24 (.tmp 59) ?_ gx 3 ?_ XC.toList _ ?_ HUC.out ?_ CX.out) <;> first | rfl | exact fun w h => h.2.2.1))
       try simp only [Act.put, pu1, pu2, pu3]
       refine tk (oq op0) (v := ?_) (by kernel_rfl) ?_ (by assumption) ?_ fun _ _ _ h => h
       rotate_left
       ·(refine ya rfl fun w hSw => ?_; go_simp; rfl)
       try simp only [Act.put, pu1, pu2, pu3]
       refine tk (oq op1) (v := ?_) (by kernel_rfl) ?_ (by assumption) ?_ fun _ _ _ h => h
       rotate_left
       ·(refine ya rfl fun w hSw => ?_; go_simp; rfl)
       try simp only [Act.put, pu1, pu2, pu3]
       refine tk (oq op2) (v := ?_) (by kernel_rfl) ?_ (by assumption) ?_ fun _ _ _ h => h
       rotate_left
       ·(refine ya rfl fun w hSw => ?_; go_simp; rfl)
       try simp only [Act.put, pu1, pu2, pu3]
       refine tk (oq op3) (v := ?_) (by kernel_rfl) ?_ (by assumption) ?_ fun _ _ _ h => h
       rotate_left
       ·((refine Or.inl ⟨by rfl, ?_⟩; intro w hSw; obtain ⟨hS1, hS2, hS3, hS4, hS5, hS6⟩ := hSw; go_simp; try with_reducible rfl))
       try simp only [Act.put, pu1, pu2, pu3]
       refine tk (oq op4) (v := ?_) (by kernel_rfl) ?_ (by assumption) ?_ fun _ _ _ h => h
       rotate_left
       ·(refine ya rfl fun w hSw => ?_; go_simp; rfl)
       try simp only [Act.put, pu1, pu2, pu3]
       refine tk (oq op5) (v := ?_) (by kernel_rfl) ?_ (by assumption) ?_ fun _ _ _ h => h
       rotate_left
       ·(refine ya rfl fun w hSw => ?_; go_simp; rfl)
       try simp only [Act.put, pu1, pu2, pu3]
       refine tk (oq op6) (v := ?_) (by kernel_rfl) ?_ (by assumption) ?_ fun _ _ _ h => h
       rotate_left
       ·(refine Or.inr ⟨by rfl, ?_⟩; rfl)
       try simp only [Act.put, pu1, pu2, pu3]
       refine tk (oq op7) (v := ?_) (by kernel_rfl) ?_ (by assumption) ?_ fun _ _ _ h => h
       rotate_left
       ·(refine Or.inr ⟨by rfl, ?_⟩; rfl)
       try simp only [Act.put, pu1, pu2, pu3]
       refine tk (oq op8) (v := ?_) (by kernel_rfl) ?_ (by assumption) ?_ fun _ _ _ h => h
       rotate_left
       ·(refine Or.inr ⟨by rfl, ?_⟩; rfl)
       try simp only [Act.put, pu1, pu2, pu3]
       refine tk (oq op9) (v := ?_) (by kernel_rfl) ?_ (by assumption) ?_ fun _ _ _ h => h
       rotate_left
       ·(refine Or.inr ⟨by rfl, ?_⟩; rfl)
       try simp only [Act.put, pu1, pu2, pu3]
       refine tk (oq (oq op0)) (v := ?_) (by kernel_rfl) ?_ (by assumption) ?_ fun _ _ _ h => h
       rotate_left
       ·(refine Or.inr ⟨by rfl, ?_⟩; rfl)
       try simp only [Act.put, pu1, pu2, pu3]
       refine tk (oq (oq op1)) (v := ?_) (by kernel_rfl) ?_ (by assumption) ?_ fun _ _ _ h => h
       rotate_left
       ·(refine Or.inr ⟨by rfl, ?_⟩; rfl)
       try simp only [Act.put, pu1, pu2, pu3]
       refine tk (oq (oq op2)) (v := ?_) (by kernel_rfl) ?_ (by assumption) ?_ fun _ _ _ h => h
       rotate_left
       ·(refine Or.inr ⟨by rfl, ?_⟩; rfl)
       try simp only [Act.put, pu1, pu2, pu3]
       refine tk (oq (oq op3)) (v := ?_) (by kernel_rfl) ?_ (by assumption) ?_ fun _ _ _ h => h
       rotate_left
       ·(refine Or.inr ⟨by rfl, ?_⟩; rfl)
       try simp only [Act.put, pu1, pu2, pu3]
       refine tk (oq (oq op4)) (v := ?_) (by kernel_rfl) ?_ (by assumption) ?_ fun _ _ _ h => h
       rotate_left
       ·(refine Or.inr ⟨by rfl, ?_⟩; rfl)
       try simp only [Act.put, pu1, pu2, pu3]
       refine tk (oq (oq op5)) (v := ?_) (by kernel_rfl) ?_ (by assumption) ?_ fun _ _ _ h => h
       rotate_left
       ·(refine ya rfl fun w hSw => ?_; go_simp; rfl)
       try simp only [Act.put, pu1, pu2, pu3]
       refine tk (oq (oq op6)) (v := ?_) (by kernel_rfl) ?_ (by assumption) ?_ fun _ _ _ h => h
       rotate_left
       ·(refine ya rfl fun w hSw => ?_; go_simp; rfl)
       try simp only [Act.put, pu1, pu2, pu3]
       refine tk (oq (oq op7)) (v := ?_) (by kernel_rfl) ?_ (by assumption) ?_ fun _ _ _ h => h
       rotate_left
       ·(refine ya rfl fun w hSw => ?_; go_simp; rfl)
       try simp only [Act.put, pu1, pu2, pu3]
       refine wpAnyH_done (by kernel_rfl) ?_ _
       have HX := Lib.hid (HDW.out.keep (M := (gq, mapObjI (putI q sr k)) :: (g, .cells HX 45 (0, 0)) :: (bm, mapObjI l) :: F) [(gx, .cells X 40 (0, 0))] (fun i a => by simp only [List.count_append, List.count_cons, List.count_nil]; omega))
       clear HDW s1 H5 FSX mu la
       go_wp2_with fail
       go_roundw
       case rel => exact ⟨k + 1, putI q sr k, by go_num, by omega, HYS.out, HX.out⟩
       case measure => simp [intOf]; omega
  ·obtain rfl : k = NS := by omega
   rw [List.drop_of_length_le (by rw [HNS.out]; omega)] at hpa
   unfold ansA at hpa
   have hRq : ansB q es = R := by
    have q2 := HR.out
    rw [← hpa] at q2
    exact q2
   have HRQ := Lib.hid hRq; have HST := Lib.hid hst
   obtain ⟨q77, -⟩ := HAT.out _ _ hst (by simp)
   clear hst hpa hRq HR HZ
   go_wp2_with fail
   clear q77
   go_loopw [83] (fun v wr => ∃ (j : Nat), v = .int .i64 (j : Int) ∧ j ≤ NE ∧ ansB q (es.drop j) = R ∧ St W wr J ((gq, mapObjI q) :: (g, .cells HX 45 (0, 0)) :: (bm, mapObjI l) :: F)) (fun v _ => NE - (intOf v).toNat)
   case atStart => exact ⟨0, rfl, by omega, HRQ.out, HST.out⟩
   case round =>
    obtain ⟨j, rfl, hj, hpb, hst⟩ := hrel
    clear HST HRQ
    by_cases hjl : j < NE
    ·obtain ⟨x, hx⟩ : ∃ o, es[j]? = some o := ⟨_, List.getElem?_eq_getElem (by rw [HNE.out]; exact hjl)⟩
     obtain ⟨Le, hre, hle⟩ := HY.out.en
     obtain ⟨b, off, rfl, hr⟩ := hre.en _ _ hst (fun p hp => by simp [hle p hp]) j x hx
     have xok := HY.out.eok x (List.mem_of_getElem? hx)
     have xi := en_info xok
     have xsz := En.size xok
     have xo := En.one x
     have h2 := hst.alloc (.cells Tryd.zeroCells38 38)
     rw [drop_cons hx] at hpb
     unfold ansB at hpb
     have hkind : ∀ (v : World) (X : List (Nat × Obj)) (b' : Nat), St W v J X → (b', Obj.cells x.cells 38 (0, 0)) ∈ X → v.cell? ⟨b', 0, none⟩ = some (.int .i64 x.kind) ∧ v.cell? ⟨b', 1, none⟩ = some (.int .i64 x.serial) := fun v X b' hv hm => ⟨(hv.en xok hm).kind, (hv.en xok hm).serial⟩
     obtain ⟨kd, hkd⟩ : ∃ y, x.kind = y := ⟨_, rfl⟩
     obtain ⟨sr, hsr⟩ : ∃ y, x.serial = y := ⟨_, rfl⟩
     rw [hkd, hsr] at hkind hpb
     obtain ⟨X, hX⟩ : ∃ X, x.cells = X := ⟨_, rfl⟩
     rw [hX] at hr xi xsz xo hkind
     have xfit : 0 + X.size ≤ Tryd.zeroCells38.size := by rw [xsz, zent]; omega
     have xmany : setMany Tryd.zeroCells38 0 X.toList = X := by rw [setMany_whole _ _ (by rw [Array.length_toList, xsz, zent]), Array.toArray_toList]
     have HR2 := Lib.hid hr; have XI := Lib.hid xi; have XO := Lib.hid xo; have XF := Lib.hid xfit; have XM := Lib.hid xmany; have H2 := Lib.hid h2; have HPB := Lib.hid hpb; have HKD := Lib.hid hkind
     clear hst hr xi xo xsz xfit xmany h2 hpb hkind xok hx hX hkd hsr hre hle
     go_wp2_with (first | (with_reducible refine wpList_load_midg 86 rfl (by kernel_rfl) 38 (.tmp 85) rfl b (off + j * 126) rfl X _ HR2.out Tryd.underlying38 rfl XI.out ?_) | (with_reducible refine wpList_store_st rfl 38 (.tmp 13) (.tmp 86) rfl (g := wr.heap.size) (off := 0) X rfl rfl H2.out XF.out XI.out XO.out ?_; intro w3 h3; refine Hid.out ?_))
     refine Lib.hid ?_
     rw [XM.out] at h3
     obtain ⟨gx, hgx⟩ : ∃ y, wr.heap.size = y := ⟨_, rfl⟩
     rw [hgx] at h3 ⊢
     obtain ⟨c0, c1⟩ := HKD.out _ _ gx h3 (List.mem_cons_self ..)
     have lq := map_look h3 (b := gq) (l := q) (by simp) sr
     cases hlq : lookI q sr with
     | some i =>
      rw [hlq] at lq
      simp only [Option.isSome_some] at lq
      have hnx : ansB q (es.drop (j + 1)) = R := by
       have q1 := HPB.out
       rw [hlq] at q1
       simpa using q1
      have H3 := Lib.hid h3; have HNX := Lib.hid hnx
      clear h3 H2 HR2 hgx hnx HPB HKD hlq
      go_wp2_with fail
      go_roundw
      case rel => exact ⟨j + 1, by go_num, by omega, HNX.out, H3.out.weaken (A := [_])⟩
      case measure => simp [intOf]; omega
     | none =>
      rw [hlq] at lq
      simp only [Option.isSome_none] at lq
      by_cases h1k : kd = 1
      ·subst h1k
       have hres : R = false := by
        have q1 := HPB.out
        rw [hlq] at q1
        simpa using q1.symm
       have HF := Lib.hid (FIN.out false _ [(gx, .cells X 38 (0, 0)), (gq, mapObjI q)] hres h3)
       clear h3 H2 HR2 hgx hres HPB HKD hlq
       go_wp2_with fail
       go_ret
       exact HF.out
      ·have b1 : (kd == 1) = false := by simpa using h1k
       have hnx : ansB q (es.drop (j + 1)) = R := by
        have q1 := HPB.out
        rw [hlq, if_neg (fun q => h1k q.2)] at q1
        exact q1
       have H3 := Lib.hid h3; have HNX := Lib.hid hnx
       clear h3 H2 HR2 hgx hnx HPB HKD hlq
       go_wp2_with fail
       go_roundw
       case rel => exact ⟨j + 1, by go_num, by omega, HNX.out, H3.out.weaken (A := [_])⟩
       case measure => simp [intOf]; omega
    ·obtain rfl : j = NE := by omega
     rw [List.drop_of_length_le (by rw [HNE.out]; omega)] at hpb
     have HF := Lib.hid (FIN.out true _ [(gq, mapObjI q)] hpb.symm hst)
     clear hst hpb
     go_wp2_with fail
     go_ret
     exact HF.out
end
end Go.Proofs.YtnjnooeldkideaaDoor
