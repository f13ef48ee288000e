/- order: Check. order: the law's own example; as data. order: the law's own example: the walks. -/
import Derived.Test.YtnjnooeldkideaaDoorOrAn
import Derived.OwnWalk
import Derived.Deep.DeepCutAuto
import Derived.Test.YtnjnooeldkideaaDoorMOrK
namespace Go.Proofs.YtnjnooeldkideaaDoor
section
set_option linter.unusedVariables false
set_option linter.unusedSimpArgs false
open Go.RowKit Go.Lib Go.Deep
section
variable {W w : World} {J : Nat → Option Obj} {t : Tb} {F : List (Nat × Obj)}
variable {nA lA pA : Option Addr} {nc lc pc : Nat} {nms : List ByteArray} {es : List En} {ss : List Sp} {t : Tb}
def runM (ns : List ByteArray) : List En → Md → Option Md
 | [], m => some m
 | e :: es, m => match doM m ns e with
  | some m' => runM ns es m'
  | none => none
def lateP (l : List (Int × Int)) (a b : Sp) : Bool := match lookI l a.serial, lookI l b.serial with
 | some i, some k => aheadB a b && decide (k < i)
 | _, _ => false
def lateIn (l : List (Int × Int)) (a : Sp) (ss : List Sp) : Bool := ss.any fun b => lateP l a b
def lateB (l : List (Int × Int)) (ss : List Sp) : Bool := ss.any fun a => lateIn l a ss
def checkM (t : Tb) (nms : List ByteArray) (tries : Int) (es : List En) (ss : List Sp) : Int := match runM (filtN nms) es (newM t tries) with
 | none => 261
 | some _ => match placesM es with
  | none => 262
  | some l => if answeredM es ss l = false then 262 else if lateB l ss = true then 263 else 0
theorem placesA_in (n : Nat) : ∀ (es : List En) (i : Nat) (l l' : List (Int × Int)), i + es.length ≤ n → MapIn l i → placesA es i l = some l' → MapIn l' n
 | [], i, l, l', hi, hl, h => by
  unfold placesA at h
  injection h with h
  rw [← h]
  intro k j hk
  obtain ⟨h1, h2⟩ := hl k j hk
  simp at hi
  exact ⟨h1, by omega⟩
 | e :: es, i, l, l', hi, hl, h => by
  unfold placesA at h
  simp only [List.length_cons] at hi
  cases hp : plStep l i e with
  | none => rw [hp] at h; cases h
  | some l2 =>
   rw [hp] at h
   refine placesA_in n es (i + 1) l2 l' (by omega) ?_ h
   unfold plStep at hp
   split at hp
   ·split at hp
    ·cases hp
    ·injection hp with hp
     rw [← hp]
     intro k j hk
     rw [lookI_put] at hk
     split at hk
     ·injection hk with hk
      omega
     ·obtain ⟨h1, h2⟩ := hl k j hk
      omega
   ·injection hp with hp
    rw [← hp]
    intro k j hk
    obtain ⟨h1, h2⟩ := hl k j hk
    omega
theorem placesM_in {l : List (Int × Int)} (h : placesM es = some l) : MapIn l es.length := placesA_in es.length es 0 [] l (by omega) (fun k i hk => by cases hk) h
theorem any_take_succ {α : Type} (p : α → Bool) {l : List α} {k : Nat} {x : α} (h : l[k]? = some x) : (l.take (k + 1)).any p = ((l.take k).any p || p x) := by
 rw [List.take_add_one, h, Option.toList_some, List.any_append]
 simp
theorem any_of_take {α : Type} (p : α → Bool) {l : List α} {k : Nat} {x : α} (h : l[k]? = some x) (hp : p x = true) : l.any p = true := List.any_eq_true.2 ⟨x, List.mem_of_getElem? h, hp⟩
set_option maxRecDepth 100000 in
set_option maxHeartbeats 32000000 in
theorem o_check (tb : Go.Proofs.YtnjnooeldkideaaDoor.TB W J) (tries : Int) (hy : HyOk W J F t nA nms tries lA es pA ss) (h : St W w J F) :
  Calls Tryd.prog 9 #[.agg (hyCells t (.slice nA nms.length nc) tries (.slice lA es.length lc) (.slice pA ss.length pc))] w fun e w' => e = .returned (.int .i64 (checkM t nms tries es ss)) ∧ St W w' J F := by
 have h1 := h.alloc (.cells (hyCells t (.slice nA nms.length nc) tries (.slice lA es.length lc) (.slice pA ss.length pc)) 45)
 obtain ⟨g, hg⟩ : ∃ g, w.heap.size = g := ⟨_, rfl⟩
 rw [hg] at h1
 have hat := fun (v : World) (X : List (Nat × Obj)) (hv : St W v J X) (hx : (g, Obj.cells (hyCells t (.slice nA nms.length nc) tries (.slice lA es.length lc) (.slice pA ss.length pc)) 45 (0, 0)) ∈ X) => hv.hy hy.tok hx
 have kans := fun (bm : Nat) (l : List (Int × Int)) (hl : MapIn l es.length) (v : World) (X : List (Nat × Obj)) (hX : ∀ p ∈ F, p ∈ X) (hv : St W v J ((bm, mapObjI l) :: X)) => o_answered (nc := nc) (lc := lc) (pc := pc) tries (hy.more hX) bm l hl hv
 obtain ⟨HX, hHX⟩ : ∃ y, hyCells t (.slice nA nms.length nc) tries (.slice lA es.length lc) (.slice pA ss.length pc) = y := ⟨_, rfl⟩
 have hxs := hy_size hy.tok (.slice nA nms.length nc) tries (.slice lA es.length lc) (.slice pA ss.length pc)
 rw [hHX] at h1 hat hxs kans ⊢
 have hsf := hy.sfew
 have hef := hy.efew
 obtain ⟨R, hR⟩ : ∃ R, checkM t nms tries es ss = R := ⟨_, rfl⟩
 rw [hR]
 unfold checkM at hR
 have fin : ∀ (z : Int) (v : World) (D : List (Nat × Obj)), R = z → St W v J (D ++ ((g, .cells HX 45 (0, 0)) :: F)) → (Ending.returned (.int .i64 z) = .returned (.int .i64 R) ∧ St W v J F) := fun z v D hz hv => ⟨by rw [hz], hv.keep (D ++ [(g, .cells HX 45 (0, 0))]) (fun i a => by simp only [List.count_append, List.count_cons, List.count_nil]; omega)⟩
 obtain ⟨RUN, hRUN⟩ : ∃ R, runM (filtN nms) es (newM t tries) = R := ⟨_, rfl⟩
 rw [hRUN] at hR
 have sub1 : ∀ p ∈ F, p ∈ (g, .cells HX 45 (0, 0)) :: F := fun p hp => List.mem_cons_of_mem _ hp
 obtain ⟨Lnm, hnm, hnl⟩ := hy.nm
 have kn := o_new (c := nc) tb t hy.tok tries hy.x0 hy.x1 hnm (by have := hy.nfew; omega) hy.nsz (fun p hp => sub1 p (hnl p hp)) h1
 obtain ⟨NS, hNS⟩ : ∃ y, ss.length = y := ⟨_, rfl⟩
 obtain ⟨NE, hNE⟩ : ∃ y, es.length = y := ⟨_, rfl⟩
 rw [hNS] at hat hsf
 rw [hNE] at hat hef
 have ha := hat _ _ h1 (List.mem_cons_self ..)
 have q0 := ha.first; have q75 := ha.names; have q76 := ha.trs
 have ti := tb_info hy.tok
 have hwell := new_well (t := t) hy.tok tries (f := NE) (by omega)
 have hinf : (Tryd.prog.info? 45).map (·.size) = some HX.size := by rw [hxs]; kernel_rfl
 unfold Tb.val at kn
 obtain ⟨CT, hCT⟩ : ∃ y, t.cells = y := ⟨_, rfl⟩
 rw [hCT] at q0 kn ti
 have H1 := Lib.hid h1; have HAT := Lib.hid hat; have FIN := Lib.hid fin; have HR := Lib.hid hR; have HRUN := Lib.hid hRUN; have HY := Lib.hid hy; have HNS := Lib.hid hNS; have HNE := Lib.hid hNE; have KN := Lib.hid kn; have Q0 := Lib.hid q0; have TI := Lib.hid ti; have HW := Lib.hid hwell; have HINF := Lib.hid hinf; have KANS := Lib.hid kans
 clear h1 h hat fin hR hRUN hy hNS hNE kn q0 ti ha hwell hinf kans hHX hxs hCT sub1 hnm hnl
 go_enter Tryd.func9, Tryd.ntmps9
 go_wp2_with (with_reducible refine wpList_load_midg 17 rfl (by kernel_rfl) 32 (.tmp 16) rfl g 0 rfl CT _ Q0.out Tryd.underlying32 rfl TI.out ?_)
 refine KN.out.mono ?_
 rintro e w2 ⟨gm, A, c, L0, rfl, mo, h2⟩
 have a2 := HAT.out _ _ h2 (by simp)
 have q77 := a2.log
 have H2 := Lib.hid h2; have MO := Lib.hid mo
 clear h2 mo a2 KN Q0 q75 q76 H1
 obtain ⟨n, hn⟩ : ∃ y, (filtN nms).length = y := ⟨_, rfl⟩
 rw [hn] at H2 MO
 clear hn
 go_wp2_with fail
 clear q77
 go_loopw [26] (fun v wr => ∃ (k : Nat) (m : Md), v = .int .i64 (k : Int) ∧ k ≤ NE ∧ runM (filtN nms) (es.drop k) m = RUN ∧ m.Well (NE - k) ∧ St W wr J ((gm, .cells (m.cells (.slice A n c)) 71 (0, 0)) :: (L0 ++ ((g, .cells HX 45 (0, 0)) :: F)))) (fun v _ => NE - (intOf v).toNat)
 case atStart => exact ⟨0, newM t tries, rfl, by omega, HRUN.out, HW.out, H2.out⟩
 case round =>
  obtain ⟨k, m, rfl, hk, hrun, hwl, hst⟩ := hrel
  clear H2 HW HRUN
  by_cases hkl : k < NE
  ·obtain ⟨x, hx⟩ : ∃ o, es[k]? = some o := ⟨_, List.getElem?_eq_getElem (by rw [HNE.out]; exact hkl)⟩
   obtain ⟨Le, hre, hle⟩ := HY.out.en
   obtain ⟨b, off, rfl, hr⟩ := hre.en wr _ hst (fun p hp => by simp [hle p hp]) k x hx
   have xok := HY.out.eok x (List.mem_of_getElem? hx)
   have xnm := HY.out.enm x (List.mem_of_getElem? hx)
   have xi := en_info xok
   have xsz := En.size xok
   have xo := En.one x
   have h2 := hst.alloc (.cells Tryd.zeroCells38 38)
   rw [drop_cons hx] at hrun
   unfold runM at hrun
   have hwl2 : m.Well (NE - (k + 1) + 1) := hwl.less (by omega)
   have hnext := fun m' hd => doM_well hwl2 (filtN nms) x xok m' hd
   have kd := fun (v : World) (X : List (Nat × Obj)) (hF : ∀ p ∈ L0, p ∈ X) (hv : St W v J ((gm, .cells (m.cells (.slice A n c)) 71 (0, 0)) :: X)) => o_do tb (MO.out.of hwl) x xok xnm hF hv
   unfold En.val at kd
   obtain ⟨X, hX⟩ : ∃ X, x.cells = X := ⟨_, rfl⟩
   rw [hX] at hr xi xsz xo kd
   have xfit : 0 + X.size ≤ Tryd.zeroCells38.size := by rw [xsz, zent]; omega
   have xmany : setMany Tryd.zeroCells38 0 X.toList = X := by rw [setMany_whole _ _ (by rw [Array.length_toList, xsz, zent]), Array.toArray_toList]
   have HR2 := Lib.hid hr; have XI := Lib.hid xi; have XO := Lib.hid xo; have XF := Lib.hid xfit; have XM := Lib.hid xmany; have H2 := Lib.hid h2; have HRN := Lib.hid hrun; have HNX := Lib.hid hnext; have KD := Lib.hid kd
   clear hst hr xi xo xsz xfit xmany h2 hrun hnext kd xok xnm hX hre hle hwl hwl2 hx
   go_wp2_with (first | (with_reducible refine wpList_load_midg 29 rfl (by kernel_rfl) 38 (.tmp 28) rfl b (off + k * 126) rfl X _ HR2.out Tryd.underlying38 rfl XI.out ?_) | (with_reducible refine wpList_store_st rfl 38 (.tmp 5) (.tmp 29) rfl (g := wr.heap.size) (off := 0) X rfl rfl H2.out XF.out XI.out XO.out ?_; intro w3 h3; refine Hid.out ?_))
   refine Lib.hid ?_
   rw [XM.out] at h3
   obtain ⟨gx, hgx⟩ : ∃ y, wr.heap.size = y := ⟨_, rfl⟩
   rw [hgx] at h3 ⊢
   have RX : Hid (w3.rangeAt gx 0 X.toList) := Lib.hid (fun i u hi => by rw [Nat.zero_add, h3.cell (g := gx) (cs := X) (t := 38) (fr := (0, 0)) (by simp) i]; simpa using hi)
   have KD2 := Lib.hid (KD.out _ ((gx, .cells X 38 (0, 0)) :: (L0 ++ ((g, .cells HX 45 (0, 0)) :: F))) (fun p hp => by simp [hp]) (h3.perm (perm_count (fun i a => by simp only [List.count_append, List.count_cons, List.count_nil]; omega))))
   clear h3 H2 HR2 hgx KD
   go_wp2_with (with_reducible refine wpList_load_midg 31 rfl (by kernel_rfl) 38 (.tmp 5) rfl gx 0 rfl X _ RX.out Tryd.underlying38 rfl XI.out ?_)
   refine KD2.out.mono ?_
   clear KD2 RX
   rintro e1 w4 ⟨rfl, h4⟩
   cases hdo : doM m (filtN nms) x with
   | none =>
    rw [hdo, Option.getD_none] at h4
    have hres : R = 261 := by
     have q1 := HRN.out
     rw [hdo] at q1
     have q2 := HR.out
     rw [← q1] at q2
     exact q2.symm
    have HF := Lib.hid (FIN.out 261 w4 ((gm, .cells (m.cells (.slice A n c)) 71 (0, 0)) :: (gx, .cells X 38 (0, 0)) :: L0) hres h4)
    clear h4 hres hdo HRN HNX
    simp only [Option.isSome_none]
    go_wp2_with fail
    go_ret
    exact HF.out
   | some m' =>
    rw [hdo, Option.getD_some] at h4
    have hrn : runM (filtN nms) (es.drop (k + 1)) m' = RUN := by
     have q1 := HRN.out
     rw [hdo] at q1
     exact q1
    have H4 := Lib.hid h4; have HRN2 := Lib.hid hrn; have HWL := Lib.hid (HNX.out m' hdo)
    clear h4 hrn hdo HRN HNX
    simp only [Option.isSome_some]
    go_wp2_with fail
    go_roundw
    case rel => exact ⟨k + 1, m', by go_num, by omega, HRN2.out, HWL.out, H4.out.keep [(gx, .cells X 38 (0, 0))] (fun i a => by simp only [List.count_append, List.count_cons, List.count_nil]; omega)⟩
    case measure => simp [intOf]; omega
  ·obtain rfl : k = NE := by omega
   rw [List.drop_of_length_le (by rw [HNE.out]; omega)] at hrun
   unfold runM at hrun
   have hR2 : (match placesM es with
  | none => (262 : Int)
  | some l => if answeredM es ss l = false then 262 else if lateB l ss = true then 263 else 0) = R := by
    have q2 := HR.out
    rw [← hrun] at q2
    exact q2
   obtain ⟨Le, hre, hle⟩ := HY.out.en
   have kp := o_places (lc := lc) (F := (gm, .cells (m.cells (.slice A n c)) 71 (0, 0)) :: (L0 ++ ((g, .cells HX 45 (0, 0)) :: F))) hre (fun p hp => by simp [hle p hp]) (by rw [HNE.out]; omega) HY.out.eok hst
   rw [HNE.out] at kp
   have q77 := (HAT.out _ _ hst (by simp)).log
   have KP := Lib.hid kp; have HR2 := Lib.hid hR2
   clear hst hrun HR hR2 kp hwl hre hle
   go_wp2_with fail
   refine KP.out.mono ?_
   clear KP q77
   cases hpl : placesM es with
   | none =>
    rintro e1 w4 ⟨rfl, h4⟩
    have hres : R = 262 := by
     have q1 := HR2.out
     rw [hpl] at q1
     exact q1.symm
    have HF := Lib.hid (FIN.out 262 w4 ((gm, .cells (m.cells (.slice A n c)) 71 (0, 0)) :: L0) hres h4)
    clear h4 hres hpl HR2
    go_wp2_with fail
    go_ret
    exact HF.out
   | some l =>
    rintro e1 w4 ⟨bm, rfl, h4⟩
    have hR3 : (if answeredM es ss l = false then (262 : Int) else if lateB l ss = true then 263 else 0) = R := by
     have q1 := HR2.out
     rw [hpl] at q1
     exact q1
    have ka := KANS.out bm l (placesM_in hpl) w4 _ (fun p hp => by simp [hp]) h4
    have ral : w4.rangeAt g 0 HX.toList := fun j u hj => by rw [Nat.zero_add, h4.cell (g := g) (cs := HX) (t := 45) (fr := (0, 0)) (by simp) j]; simpa using hj
    have HM4 := Lib.hid h4
    obtain ⟨an, han⟩ : ∃ y, answeredM es ss l = y := ⟨_, rfl⟩
    rw [han] at ka hR3
    have KA := Lib.hid ka; have RAL := Lib.hid ral; have HR3 := Lib.hid hR3
    clear h4 ka ral hR3 hpl HR2 KANS han
    go_wp2_with (with_reducible refine wpList_load_midg 44 rfl (by kernel_rfl) 45 (.tmp 1) rfl g 0 rfl HX _ RAL.out Tryd.underlying45 rfl HINF.out ?_)
    refine KA.out.mono ?_
    rintro e2 w5 ⟨rfl, h5⟩
    clear KA RAL HM4
    cases an with
    | false =>
     have hres : R = 262 := by rw [← HR3.out, if_pos rfl]
     have HF := Lib.hid (FIN.out 262 w5 ((bm, mapObjI l) :: (gm, .cells (m.cells (.slice A n c)) 71 (0, 0)) :: L0) hres (h5.perm (perm_count (fun i a => by simp only [List.count_append, List.count_cons, List.count_nil]; omega))))
     clear h5 hres HR3
     go_wp2_with fail
     go_ret
     exact HF.out
    | true =>
     have HR4 := Lib.hid (show R = if lateB l ss = true then 263 else 0 by rw [← HR3.out]; rfl)
     have q78 := (HAT.out _ _ h5 (by simp)).spans
     have H5 := Lib.hid h5
     clear h5 HR3
     go_wp2_with fail
     clear q78
     go_loopw [52] (fun v wr => ∃ (ka : Nat), v = .int .i64 (ka : Int) ∧ ka ≤ NS ∧ (ss.take ka).any (fun a => lateIn l a ss) = false ∧ St W wr J ((bm, mapObjI l) :: (gm, .cells (m.cells (.slice A n c)) 71 (0, 0)) :: (L0 ++ ((g, .cells HX 45 (0, 0)) :: F)))) (fun v _ => NS - (intOf v).toNat)
     case atStart => exact ⟨0, rfl, by omega, by simp, H5.out⟩
     case round =>
      obtain ⟨ka, rfl, hka, hla, hst⟩ := hrel
      clear H5
      by_cases hkl : ka < NS
      ·obtain ⟨x, hx⟩ : ∃ o, ss[ka]? = some o := ⟨_, List.getElem?_eq_getElem (by rw [HNS.out]; exact hkl)⟩
       obtain ⟨Lp, hre, hle⟩ := HY.out.sp
       obtain ⟨b, off, rfl, hr⟩ := hre.sp _ _ hst (fun p hp => by simp [hle p hp]) ka x hx
       have xok := HY.out.sok x (List.mem_of_getElem? hx)
       have xi := sp_info xok
       have xsz := Sp.size xok
       have xo := Sp.one x
       have h2 := hst.alloc (.cells Tryd.zeroCells40 40)
       have hnx := any_take_succ (fun a => lateIn l a ss) hx
       rw [hla, Bool.false_or] at hnx
       have hany := any_of_take (fun a => lateIn l a ss) hx
       have hx0 : ∀ (v : World) (X : List (Nat × Obj)) (b' : Nat), St W v J X → (b', Obj.cells x.cells 40 (0, 0)) ∈ X → v.cell? ⟨b', 0, none⟩ = some (.int .i64 x.serial) := fun v X b' hv hm => (hv.spAt xok hm).serial
       have kah := fun (y : Sp) (v : World) (X : List (Nat × Obj)) (hv : St W v J X) => o_ahead x y hv
       unfold Sp.val at kah
       obtain ⟨sr, hsr⟩ : ∃ y, x.serial = y := ⟨_, rfl⟩
       rw [hsr] at hx0
       obtain ⟨X, hX⟩ : ∃ X, x.cells = X := ⟨_, rfl⟩
       rw [hX] at hr xi xsz xo hx0 kah
       have xfit : 0 + X.size ≤ Tryd.zeroCells40.size := by rw [xsz, zspan]; omega
       have xmany : setMany Tryd.zeroCells40 0 X.toList = X := by rw [setMany_whole _ _ (by rw [Array.length_toList, xsz, zspan]), Array.toArray_toList]
       have HRA := Lib.hid hr; have XI := Lib.hid xi; have XO := Lib.hid xo; have XF := Lib.hid xfit; have XM := Lib.hid xmany; have H2 := Lib.hid h2; have HNXA := Lib.hid hnx; have HX0 := Lib.hid hx0; have HANY := Lib.hid hany; have KAH := Lib.hid kah; have HSR := Lib.hid hsr
       clear hst hr xi xo xsz xfit xmany h2 hnx hx0 hany xok hX hx hre hle hla kah hsr
       go_wp2_with (first | (with_reducible refine wpList_load_midg 55 rfl (by kernel_rfl) 40 (.tmp 54) rfl b (off + ka * 88) rfl X _ HRA.out Tryd.underlying40 rfl XI.out ?_) | (with_reducible refine wpList_store_st rfl 40 (.tmp 9) (.tmp 55) rfl (g := wr.heap.size) (off := 0) X rfl rfl H2.out XF.out XI.out XO.out ?_; intro w6 h6; refine Hid.out ?_))
       refine Lib.hid ?_
       rw [XM.out] at h6
       obtain ⟨ga, hga⟩ : ∃ y, wr.heap.size = y := ⟨_, rfl⟩
       rw [hga] at h6 ⊢
       have q78 := (HAT.out _ _ h6 (by simp)).spans
       have H6 := Lib.hid h6
       clear h6 H2 HRA hga
       go_wp2_with fail
       clear q78
       go_loopw [59] (fun v wr => ∃ (kb : Nat), v = .int .i64 (kb : Int) ∧ kb ≤ NS ∧ lateIn l x (ss.take kb) = false ∧ St W wr J ((ga, .cells X 40 (0, 0)) :: (bm, mapObjI l) :: (gm, .cells (m.cells (.slice A n c)) 71 (0, 0)) :: (L0 ++ ((g, .cells HX 45 (0, 0)) :: F)))) (fun v _ => NS - (intOf v).toNat)
       case atStart => exact ⟨0, rfl, by omega, by simp [lateIn], H6.out⟩
       case round =>
        obtain ⟨kb, rfl, hkb, hlb, hst⟩ := hrel
        clear H6
        by_cases hkl2 : kb < NS
        ·obtain ⟨y, hy2⟩ : ∃ o, ss[kb]? = some o := ⟨_, List.getElem?_eq_getElem (by rw [HNS.out]; exact hkl2)⟩
         obtain ⟨Lp, hre, hle⟩ := HY.out.sp
         obtain ⟨b', off', eqb, hr⟩ := hre.sp _ _ hst (fun p hp => by simp [hle p hp]) kb y hy2
         injection eqb with eqb
         injection eqb with eq1 eq2
         subst eq1 eq2
         have yok := HY.out.sok y (List.mem_of_getElem? hy2)
         have yi := sp_info yok
         have ysz := Sp.size yok
         have yo := Sp.one y
         have h2 := hst.alloc (.cells Tryd.zeroCells40 40)
         have hnx := any_take_succ (fun b => lateP l x b) hy2
         have hnx2 : lateIn l x (ss.take (kb + 1)) = lateP l x y := by
          have q1 := hnx
          unfold lateIn at hlb ⊢
          rw [q1, hlb, Bool.false_or]
         have hany2 : lateP l x y = true → lateB l ss = true := fun hp => HANY.out (any_of_take (fun b => lateP l x b) hy2 hp)
         have hy0 : ∀ (v : World) (X : List (Nat × Obj)) (b' : Nat), St W v J X → (b', Obj.cells y.cells 40 (0, 0)) ∈ X → v.cell? ⟨b', 0, none⟩ = some (.int .i64 y.serial) := fun v X b' hv hm => (hv.spAt yok hm).serial
         have ky := fun (v : World) (X' : List (Nat × Obj)) (hv : St W v J X') => KAH.out y v X' hv
         obtain ⟨sr2, hsr2⟩ : ∃ z, y.serial = z := ⟨_, rfl⟩
         obtain ⟨ab, hab⟩ : ∃ z, aheadB x y = z := ⟨_, rfl⟩
         have hlp : lateP l x y = match lookI l sr, lookI l sr2 with
          | some i, some k => ab && decide (k < i)
          | _, _ => false := by unfold lateP; rw [HSR.out, hsr2, hab]
         rw [hsr2] at hy0
         rw [hab] at ky
         obtain ⟨Y, hY⟩ : ∃ Y, y.cells = Y := ⟨_, rfl⟩
         rw [hY] at hr yi ysz yo hy0 ky
         have yfit : 0 + Y.size ≤ Tryd.zeroCells40.size := by rw [ysz, zspan]; omega
         have ymany : setMany Tryd.zeroCells40 0 Y.toList = Y := by rw [setMany_whole _ _ (by rw [Array.length_toList, ysz, zspan]), Array.toArray_toList]
         have HRB := Lib.hid hr; have YI := Lib.hid yi; have YO := Lib.hid yo; have YF := Lib.hid yfit; have YM := Lib.hid ymany; have H2 := Lib.hid h2; have HNXB := Lib.hid hnx2; have HY0 := Lib.hid hy0; have HANY2 := Lib.hid hany2; have KYX := Lib.hid ky; have HLP := Lib.hid hlp
         clear hst hr yi yo ysz yfit ymany h2 hnx hnx2 hy0 hany2 yok hY hy2 hre hle hlb ky hsr2 hab hlp
         go_wp2_with (first | (with_reducible refine wpList_load_midg 62 rfl (by kernel_rfl) 40 (.tmp 61) rfl b (off + kb * 88) rfl Y _ HRB.out Tryd.underlying40 rfl YI.out ?_) | (with_reducible refine wpList_store_st rfl 40 (.tmp 11) (.tmp 62) rfl (g := wr.heap.size) (off := 0) Y rfl rfl H2.out YF.out YI.out YO.out ?_; intro w7 h7; refine Hid.out ?_))
         refine Lib.hid ?_
         rw [YM.out] at h7
         obtain ⟨gb, hgb⟩ : ∃ z, wr.heap.size = z := ⟨_, rfl⟩
         rw [hgb] at h7 ⊢
         have cA := HX0.out _ _ ga h7 (by simp)
         have cB := HY0.out _ _ gb h7 (by simp)
         have la := map_look h7 (b := bm) (l := l) (by simp) sr
         have lb := map_look h7 (b := bm) (l := l) (by simp) sr2
         have H7 := Lib.hid h7
         have RXA : Hid (w7.rangeAt ga 0 X.toList) := Lib.hid (fun i u hi => by rw [Nat.zero_add, h7.cell (g := ga) (cs := X) (t := 40) (fr := (0, 0)) (by simp) i]; simpa using hi)
         have RYB : Hid (w7.rangeAt gb 0 Y.toList) := Lib.hid (fun i u hi => by rw [Nat.zero_add, h7.cell (g := gb) (cs := Y) (t := 40) (fr := (0, 0)) (by simp) i]; simpa using hi)
         have KY2 := Lib.hid (KYX.out _ _ h7)
         clear h7 H2 HRB hgb KYX HX0 HY0
         cases hl1 : lookI l sr with
         | none =>
          rw [hl1] at la
          simp only [Option.isSome_none] at la
          have hn1 : lateIn l x (ss.take (kb + 1)) = false := by rw [HNXB.out, HLP.out, hl1]
          have HN1 := Lib.hid hn1
          clear hn1 hl1 HLP HNXB HANY2
          generalize (lookI l sr2).isSome = ok2 at *
          cases ok2 <;>
          ·go_wp2_with fail
           go_roundw
           case rel => exact ⟨kb + 1, by go_num, by omega, HN1.out, H7.out.weaken (A := [_])⟩
           case measure => simp [intOf]; omega
         | some i =>
          have hlk1 : lk l sr = i := by unfold lk; rw [hl1]; rfl
          rw [hl1, hlk1] at la
          simp only [Option.isSome_some] at la
          cases hl2 : lookI l sr2 with
          | none =>
           rw [hl2] at lb
           simp only [Option.isSome_none] at lb
           have hn1 : lateIn l x (ss.take (kb + 1)) = false := by rw [HNXB.out, HLP.out, hl1, hl2]
           have HN1 := Lib.hid hn1
           clear hn1 hl1 hl2 hlk1 HLP HNXB HANY2
           go_wp2_with fail
           go_roundw
           case rel => exact ⟨kb + 1, by go_num, by omega, HN1.out, H7.out.weaken (A := [_])⟩
           case measure => simp [intOf]; omega
          | some k2 =>
           have hlk2 : lk l sr2 = k2 := by unfold lk; rw [hl2]; rfl
           rw [hl2, hlk2] at lb
           simp only [Option.isSome_some] at lb
           have hlp2 : lateP l x y = (ab && decide (k2 < i)) := by rw [HLP.out, hl1, hl2]
           have HLP2 := Lib.hid hlp2
           clear hl1 hl2 hlk1 hlk2 hlp2 HLP
           go_wp2_with (first | (with_reducible refine wpList_load_midg 82 rfl (by kernel_rfl) 40 (.tmp 9) rfl ga 0 rfl X _ RXA.out Tryd.underlying40 rfl XI.out ?_) | (with_reducible refine wpList_load_midg 83 rfl (by kernel_rfl) 40 (.tmp 11) rfl gb 0 rfl Y _ RYB.out Tryd.underlying40 rfl YI.out ?_))
           refine KY2.out.mono ?_
           rintro e3 w8 ⟨rfl, h8⟩
           have H8 := Lib.hid h8
           clear h8 H7 KY2 RXA RYB cA cB la lb
           cases ab with
           | false =>
            have hn1 : lateIn l x (ss.take (kb + 1)) = false := by rw [HNXB.out, HLP2.out]; rfl
            have HN1 := Lib.hid hn1
            clear hn1 HLP2 HNXB HANY2
            go_wp2_with fail
            go_roundw
            case rel => exact ⟨kb + 1, by go_num, by omega, HN1.out, H8.out.weaken (A := [_])⟩
            case measure => simp [intOf]; omega
           | true =>
            by_cases hki : k2 < i
            ·have bki : decide (k2 < i) = true := by simpa using hki
             have hres : R = 263 := by rw [HR4.out, if_pos (HANY2.out (by rw [HLP2.out, bki]; rfl))]
             have HF := Lib.hid (FIN.out 263 w8 ((gb, .cells Y 40 (0, 0)) :: (ga, .cells X 40 (0, 0)) :: (bm, mapObjI l) :: (gm, .cells (m.cells (.slice A n c)) 71 (0, 0)) :: L0) hres (H8.out.perm (perm_count (fun i a => by simp only [List.count_append, List.count_cons, List.count_nil]; omega))))
             clear H8 HLP2 HNXB HANY2 hres
             go_wp2_with fail
             go_ret
             exact HF.out
            ·have bki : decide (k2 < i) = false := by simpa using hki
             have hn1 : lateIn l x (ss.take (kb + 1)) = false := by rw [HNXB.out, HLP2.out, bki]; rfl
             have HN1 := Lib.hid hn1
             clear hn1 HLP2 HNXB HANY2
             go_wp2_with fail
             go_roundw
             case rel => exact ⟨kb + 1, by go_num, by omega, HN1.out, H8.out.weaken (A := [_])⟩
             case measure => simp [intOf]; omega
        ·obtain rfl : kb = NS := by omega
         rw [← HNS.out, List.take_length] at hlb
         have hn1 : (ss.take (ka + 1)).any (fun a => lateIn l a ss) = false := by rw [HNXA.out]; exact hlb
         have HN1 := Lib.hid hn1; have HST := Lib.hid hst
         clear hst hlb hn1
         go_wp2_with fail
         go_roundw
         case rel => exact ⟨ka + 1, by go_num, by omega, HN1.out, HST.out.weaken (A := [_])⟩
         case measure => simp [intOf]; omega
      ·obtain rfl : ka = NS := by omega
       rw [← HNS.out, List.take_length] at hla
       have hres : R = 0 := by rw [HR4.out, if_neg (by unfold lateB; rw [hla]; decide)]
       have HF := Lib.hid (FIN.out 0 wr ((bm, mapObjI l) :: (gm, .cells (m.cells (.slice A n c)) 71 (0, 0)) :: L0) hres (hst.perm (perm_count (fun i a => by simp only [List.count_append, List.count_cons, List.count_nil]; omega))))
       clear hst hla hres
       go_wp2_with fail
       go_ret
       exact HF.out
end
end

section
set_option linter.unusedVariables false
set_option linter.unusedSimpArgs false
open Go.RowKit Go.Lib Go.Deep
section
variable {W w : World} {J : Nat → Option Obj} {t : Tb} {F : List (Nat × Obj)}
def gS : Slt := ⟨3, 0, 2, 9, List.replicate 32 0⟩
def gTb : Tb := ⟨gS, zS, 0, 0, 0⟩
def coreB : ByteArray := ⟨#[99, 111, 114, 101]⟩
def CoreB : ByteArray := ⟨#[67, 79, 82, 69]⟩
def alC : Cl := ⟨0, 1, 0, 0, CoreB⟩
def alE : En := ⟨1, 5, alC, ⟨0, 1, 0, 0, 0, zTb⟩, 0, 0, 0, zS⟩
def alS : Sp := ⟨1, 1, 0, ⟨0, 3, 0, 0, empB⟩, zRy⟩
def alM : Md := newM gTb 3
theorem gTb_ok : gTb.Ok := ⟨⟨by decide, by decide, by decide, by decide, by decide, by decide, by decide, by decide, by decide⟩, zS_ok, by decide, by decide, by decide, by decide, by decide, by decide⟩
theorem al_names : filtN [coreB] = [coreB] := by
 have h1 : nameOk coreB = true := by decide +kernel
 have h2 : foldOf coreB = [99, 111, 114, 101] := by decide +kernel
 unfold filtN
 simp only [List.filter_cons, h1, if_true, List.filter_nil, List.map_cons, List.map_nil, foldB, h2]
 rfl
def alM2 : Md := ⟨⟨gS, bareS 1, 0, 0, 0⟩, 3, ⟨1, 1, 0, true, 1, 0⟩, 1⟩
theorem al_do : doM alM [coreB] alE = some alM2 := by kernel_rfl
theorem al_check : checkM gTb [] 0 [] [alS] = 0 := by decide +kernel
theorem al_find : findM gTb [] 0 [] [alS] = 0 := by decide +kernel
end
end

section
set_option linter.unusedVariables false
set_option linter.unusedSimpArgs false
open Go.RowKit Go.Lib Go.Deep
section
variable {W w : World} {J : Nat → Option Obj} {t : Tb} {F : List (Nat × Obj)}
set_option maxRecDepth 100000 in
theorem run_build_gs (w : World) : (Instr.build 29 #[(0, .int .i64 3), (2, .int .u64 2), (3, .int .i64 9)]).run Tryd.prog w = .ok (.agg gS.cells) w := run_build w _ _ _ (by kernel_rfl)
set_option maxRecDepth 100000 in
theorem run_build_g2 (w : World) : (Instr.build 30 #[(0, .agg gS.cells), (1, .agg zS.cells)]).run Tryd.prog w = .ok (.agg (gS.cells ++ zS.cells)) w := run_build w _ _ _ (by kernel_rfl)
set_option maxRecDepth 100000 in
theorem run_build_gt (w : World) : (Instr.build 32 #[(0, .agg (gS.cells ++ zS.cells))]).run Tryd.prog w = .ok (.agg gTb.cells) w := run_build w _ _ _ (by kernel_rfl)
set_option maxRecDepth 100000 in
set_option maxHeartbeats 8000000 in
theorem law_good (h : St W w J F) : Calls Tryd.prog 8 #[] w fun e w' => e = .returned gTb.val ∧ St W w' J F := by
 have h1 := h.alloc (.cells Tryd.zeroCells32 32)
 have b1 := run_build_gs; have b2 := run_build_zs; have b3 := run_build_g2; have b4 := run_build_gt
 have ti := tb_info gTb_ok; have ts := Tb.size gTb_ok; have tone := gTb.one
 unfold Tb.val
 obtain ⟨G1, hG1⟩ : ∃ y, gS.cells = y := ⟨_, rfl⟩
 obtain ⟨G2, hG2⟩ : ∃ y, zS.cells = y := ⟨_, rfl⟩
 rw [hG1] at b1 b3 b4
 rw [hG2] at b2 b3 b4
 obtain ⟨G3, hG3⟩ : ∃ y, G1 ++ G2 = y := ⟨_, rfl⟩
 rw [hG3] at b3 b4
 obtain ⟨GT, hGT⟩ : ∃ y, gTb.cells = y := ⟨_, rfl⟩
 rw [hGT] at b4 ti ts tone ⊢
 have fit : 0 + GT.size ≤ Tryd.zeroCells32.size := by rw [ts, ztable]; omega
 have many : setMany Tryd.zeroCells32 0 GT.toList = GT := by rw [setMany_whole _ _ (by rw [Array.length_toList, ts, ztable]), Array.toArray_toList]
 have B1 := Lib.hid b1; have B2 := Lib.hid b2; have B3 := Lib.hid b3; have B4 := Lib.hid b4; have TI := Lib.hid ti; have TO := Lib.hid tone; have FIT := Lib.hid fit; have MANY := Lib.hid many; have H1 := Lib.hid h1
 clear b1 b2 b3 b4 ti ts tone fit many h1 h hG1 hG2 hG3 hGT
 go_enter Tryd.func8, Tryd.ntmps8
 go_wp2_with (first | (with_reducible refine wpList_build_go rfl 29 _ rfl _ ?_ (B1.out _) ?_; · go_simp) | (with_reducible refine wpList_build_go rfl 29 _ rfl _ ?_ (B2.out _) ?_; · go_simp) | (with_reducible refine wpList_build_go rfl 30 _ rfl _ ?_ (B3.out _) ?_; · go_simp) | (with_reducible refine wpList_build_go rfl 32 _ rfl _ ?_ (B4.out _) ?_; · go_simp) | (with_reducible refine wpList_store_st rfl 32 (.tmp 0) (.tmp 4) rfl (g := w.heap.size) (off := 0) GT rfl rfl H1.out FIT.out TI.out TO.out ?_; intro w4 h4; refine Hid.out ?_))
 refine Lib.hid ?_
 rw [MANY.out] at h4
 have HZ := Lib.hid h4
 clear h4 H1
 go_wp2_with fail
 refine bodyPost_ret (results_row rfl _ _ w.heap.size 32 GT (0, 0) _ rfl (HZ.out.own (w.heap.size, .cells GT 32 (0, 0)) (List.mem_cons_self ..)) Tryd.underlying32 (by kernel_rfl) TI.out) rfl ?_
 exact ⟨rfl, HZ.out.weaken (A := [_])⟩
theorem al_rd {b : Nat} : Rd W J [(b, .cells #[.string coreB] 9 (0, 0))] 1 (some ⟨b, 0, none⟩) (nmRows [coreB]) :=
 Rd.of_row (by omega) (Row.whole 9 1 b 1 #[.string coreB] rfl (by unfold maxLen; omega)) rfl (fun r hr => by simp [nmRows] at hr; rw [hr]; rfl)
set_option maxRecDepth 100000 in
theorem run_build_alr (w : World) : (Instr.build 36 #[(1, .int .i64 1)]).run Tryd.prog w = .ok (.agg (⟨0, 1, 0, 0, 0, zTb⟩ : Ry).cells) w := run_build w _ _ _ (by kernel_rfl)
set_option maxRecDepth 100000 in
theorem run_build_ale (w : World) : (Instr.build 38 #[(0, .int .i64 1), (1, .int .i64 5), (2, .agg alC.cells), (3, .agg (⟨0, 1, 0, 0, 0, zTb⟩ : Ry).cells)]).run Tryd.prog w = .ok (.agg alE.cells) w := run_build w _ _ _ (by kernel_rfl)
set_option maxRecDepth 100000 in
theorem run_build_als (w : World) : (Instr.build 40 #[(0, .int .i64 1), (1, .int .i64 1), (3, .agg (⟨0, 3, 0, 0, empB⟩ : Cl).cells)]).run Tryd.prog w = .ok (.agg alS.cells) w := run_build w _ _ _ (by kernel_rfl)
set_option maxRecDepth 100000 in
theorem run_build_alh (A : Option Addr) (n c : Nat) (w : World) : (Instr.build 45 #[(0, .agg gTb.cells), (4, .slice A n c)]).run Tryd.prog w = .ok (.agg (hyCells gTb (.slice none 0 0) 0 (.slice none 0 0) (.slice A n c))) w := run_build w _ _ _ (by kernel_rfl)
theorem alE_ok : alE.Ok := plEn_ok (x := ⟨5, 0, 0, alC, ⟨0, 1, 0, 0, 0, zTb⟩⟩) ⟨by decide, by decide, by decide, by decide, by decide, by decide, ⟨by decide, by decide, by decide, by decide, by decide, by decide, by decide, by decide, by decide⟩, mkRy_ok (by omega) (by omega) (by omega) (by omega) (by omega) (by omega) (by omega) (by omega) (by omega) (by omega) zTb_ok⟩ (mkRy_ok (by omega) (by omega) (by omega) (by omega) (by omega) (by omega) (by omega) (by omega) (by omega) (by omega) zTb_ok) (by decide) (by decide)
theorem alS_ok : alS.Ok := ⟨by decide, by decide, by decide, by decide, by decide, by decide, ⟨by decide, by decide, by decide, by decide, by decide, by decide, by decide, by decide, by decide⟩, zRy_ok⟩
theorem alC_ok : alC.Ok := ⟨by decide, by decide, by decide, by decide, by decide, by decide, by decide, by decide, by decide⟩
theorem alM2_ok : alM2.Ok := ⟨⟨gTb_ok.s0, bareS_ok 1 (by decide) (by decide), by decide, by decide, by decide, by decide, by decide, by decide⟩, by decide, by decide, ⟨by decide, by decide, by decide, by decide, by decide, by decide, by decide, by decide, by decide, by decide⟩, by decide, by decide⟩
theorem rd_nil {k : Nat} {A : Option Addr} : Rd W J [] k A [] := ⟨fun r hr => (by cases hr), fun v X hv hX i r hi => by simp at hi⟩
theorem al_hy {b : Nat} : HyOk W J ((b, .cells alS.cells 40 (0, 0)) :: F) gTb none [] 0 none [] (some ⟨b, 0, none⟩) [alS] where
 tok := gTb_ok
 x0 := by decide
 x1 := by decide
 nm := ⟨[], rd_nil, fun p hp => (by cases hp)⟩
 nfew := by decide
 nsz := fun s hs => (by cases hs)
 en := ⟨[], rd_nil, fun p hp => (by cases hp)⟩
 efew := by decide
 eok := fun s hs => (by cases hs)
 enm := fun s hs => (by cases hs)
 sp := ⟨[(b, .cells alS.cells 40 (0, 0))], Rd.of_row (by omega) (Row.whole 40 88 b 1 alS.cells (by rw [Sp.size alS_ok]) (by unfold maxLen; omega)) (by simp [spRows]) (spRows_len _ (fun s hs => by simp at hs; rw [hs]; exact alS_ok)), fun p hp => by simp at hp; simp [hp]⟩
 sfew := by decide
 sok := fun s hs => by simp at hs; rw [hs]; exact alS_ok
 snm := fun s hs => by simp at hs; rw [hs]; decide
end
end
end Go.Proofs.YtnjnooeldkideaaDoor
