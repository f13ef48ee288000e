/- order: the law OrderReplies. -/
import Derived.Test.YtnjnooeldkideaaGreatDoorMRfV
import Derived.Test.YtnjnooeldkideaaGreatDoorMOrRe
import Derived.Test.YtnjnooeldkideaaGreatDoorMOrDo
import Derived.OwnWalk
import Derived.Deep.DeepCutAuto
import Derived.Test.YtnjnooeldkideaaGreatDoorMOrT
namespace Go.Proofs.YtnjnooeldkideaaGreatDoor
set_option maxRecDepth 100000
set_option maxHeartbeats 32000000
set_option linter.unusedVariables false
set_option linter.unusedSimpArgs false
open Go.RowKit Go.Lib Go.Deep
section
variable {W w:World}
theorem zask:Tryz.zeroCells62.size=132:=by kernel_rfl
theorem walk_orderReplies (W:World) (tabs:Tabs W) {H:Type} {enc:TypeId × Value→H} {v0 v1:Value} (a0:Arg enc Tryz.prog W 42 v0) (a1:Arg enc Tryz.prog W 60 v1) :
  Calls Tryz.prog 6 #[v0,v1] W fun e w'=>e=.returned (.bool true)∧Below W.heap.size W w':=by
 obtain⟨x,rfl⟩:=Arg.worldO a0;obtain⟨lA,lc,es,rfl,hel,erd,apre⟩:=Arg.asks a1;have tb:=Go.Proofs.YtnjnooeldkideaaGreatDoor.TB.start tabs;have h1:=(St.start W).alloc (.cells x.cells 42)
 have fin:∀(v:World) (L:List (Nat × Obj)),St W v (fun b=>W.heap[b]?) L→Below W.heap.size W v:=fun v L hv=>hv.below (Le.refl _)
 have FIN:=za fin;clear fin;obtain⟨g,hg⟩:∃g,W.heap.size=g:=⟨_,rfl⟩;rw[hg]at h1
 have kA:=fun(v:World) (L:List (Nat × Obj)) (hv:St W v (fun b=>W.heap[b]?) L)=>law_alive tb hv
 have kG:=fun(v:World) (L:List (Nat × Obj)) (hv:St W v (fun b=>W.heap[b]?) L)=>law_great (nc:=x.nc) (lc:=0) (lA:=none) (es:=[]) (Le:=[]) x.tok x.nrd (by simp) zbr (by simp) (by have:=x.nl;unfold maxLen at this;omega) (by decide) (fun e he=>by cases he) hv
 simp only[List.length_nil]at kG
 have hat:=fun(v:World) (L:List (Nat × Obj)) (hv:St W v (fun b=>W.heap[b]?) L) (hx:(g,Obj.cells x.cells 42 (0,0))∈L)=>wr_range x hv hx
 obtain⟨R,hR⟩:∃R,zbf x.t x.nms []=R:=⟨_,rfl⟩;rw[hR]at kG
 have few:R=false→zx x.t=true∧x.nms.length≤10∧(∀s∈x.nms,s.size≤200):=fun hr=>by
  rw[hr]at hR;unfold zbf at hR;simp only[Bool.or_eq_false_iff,decide_eq_false_iff_not,Bool.not_eq_false']at hR;obtain⟨h1,h2,h3,h4,h5⟩:=hR;refine⟨h1,by omega,fun s hs=>?_⟩;unfold bigN at h4;have:=List.any_eq_false.1 h4 s hs
  simpa using this
 have kN:=fun(hr:R=false) (v:World) (L:List (Nat × Obj)) (hv:St W v (fun b=>W.heap[b]?) L)=>o_new (c:=x.nc) tb x.t x.tok x.tries x.x0 x.x1 x.nrd (by have:=(few hr).2.1;omega) (fun s hs=>by have:=(few hr).2.2 s hs;omega) (by simp) hv
 have kRN:=fun(v:World) (L:List (Nat × Obj)) (hv:St W v (fun b=>W.heap[b]?) L)=>r26_new (t:=x.t) x.tok x.nA x.nms.length x.nc x.tries hv
 have w0:(newM x.t x.tries).Well 100:=new_well x.tok x.tries (by decide);have d0ok:=w0.ok;have di:=zz (nv:=.slice x.nA x.nms.length x.nc) d0ok;have do_:=ye (m:=newM x.t x.tries) (nv:=.slice x.nA x.nms.length x.nc) rfl;have ds:=zy (nv:=.slice x.nA x.nms.length x.nc) d0ok;have ti:=z7 x.tok;unfold Tb.val at kG kN kRN;obtain⟨T,hT⟩:∃y,x.t.cells=y:=⟨_,rfl⟩;rw[hT]at kG kN kRN hat ti;obtain⟨WX,hWX⟩:∃y,x.cells=y:=⟨_,rfl⟩;rw[hWX]at h1 hat ⊢;obtain⟨D0,hD0⟩:∃y,stC (newM x.t x.tries) (.slice x.nA x.nms.length x.nc)=y:=⟨_,rfl⟩;rw[hD0]at kRN di do_ ds;have DF:Hid (0+D0.size≤Tryz.zeroCells47.size):=za (by rw[ds,zst];omega);have DM:Hid (zg Tryz.zeroCells47 0 D0.toList=D0):=za (by rw[zd _ _ (by rw[Array.length_toList,ds,zst]),Array.toArray_toList]);obtain⟨NE,hNE⟩:∃y,es.length=y:=⟨_,rfl⟩;rw[hNE]at hel ⊢;obtain⟨NN,hNN⟩:∃y,x.nms.length=y:=⟨_,rfl⟩;have HD0:=za hD0;have HNL:=za hNN;rw[hNN]at hat kG kN kRN few;obtain⟨nn,hnn⟩:∃y,(filtN x.nms).length=y:=⟨_,rfl⟩;rw[hnn]at kN;have KA:=za kA;have KG:=za kG;have KN:=za kN;have KRN:=za kRN;have HAT:=za hat;have TI:=za ti;have FEW:=za few;have HNE:=za hNE;have HNN:=za hnn;have H1:=za h1;have W0:=za w0;have ERD:=za erd;have APRE:=za apre;have TB0:=za tb;have DI:=za di;have DO:=za do_;have D0OK:=za d0ok;clear kA kG kN kRN hat ti few hNE hnn h1 w0 erd apre tb tabs a0 a1 hT hWX hNN hR di do_ ds d0ok hD0;unfold maxLen at hel
 go_enter Tryz.func6,Tryz.ntmps6
 go_wp2_with fail;refine(KA.out _ _ H1.out).mono ?_;rintro e w2 ⟨rfl,h2⟩;obtain⟨r0,c75,c76⟩:=HAT.out _ _ h2 (List.mem_cons_self ..);have R0:=za r0;have H2:=za h2;clear r0 h2 H1
 go_wp2_with (with_reducible refine zb 20 rfl (by kernel_rfl) 29 (.tmp 19) rfl g 0 rfl T _ R0.out Tryz.underlying29 rfl TI.out ?_)
 refine(KG.out _ _ H2.out).mono ?_;rintro e w3 ⟨rfl,h3⟩;clear c75 c76 R0;obtain⟨r0,c75,c76⟩:=HAT.out _ _ h3 (List.mem_cons_self ..);have R0:=za r0;have H3:=za h3;clear r0 h3 H2
 cases R with
 | true=>
  go_wp2_with fail;go_ret;exact⟨rfl,FIN.out _ _ H3.out⟩
 | false=>
  obtain⟨hrt0,hnl10,hnsz⟩:=FEW.out (by trivial);have HRT0:=za hrt0;have HNSZ:=za hnsz;have HNL10:=za hnl10;clear hrt0 hnsz hnl10
  by_cases hmany:40 < NE
  ·have b0:decide ((NE:Int) > 40)=true:=by simp;omega
   clear hmany;go_wp2_with fail;go_ret;exact⟨rfl,FIN.out _ _ H3.out⟩
  have b0:decide ((NE:Int) > 40)=false:=by simp;omega
  have hne40:NE≤40:=by omega
  clear hmany;go_wp2_with fail;have HDW:=za H3.out.drew1;have HAL:=za (H3.out.alloc (.cells Tryz.zeroCells47 47)).drew1;have s1:=HAT.out _ _ HDW.out (by simp);have HUT:=za Tryz.underlying29;have TI2:Hid ((Tryz.prog.info? 29).map (·.size)=some T.toList.length):=za (by rw[Array.length_toList];exact TI.out)
  go_upto_region 5 with fail
  go_cut [5,6] (fun s5 s6 wx=>∃gm A c Ln gs,s5=.pointer (some ⟨gm,0,none⟩)∧s6=.pointer (some ⟨gs,0,none⟩)∧MOk (fun b=>W.heap[b]?) (newM x.t x.tries) (filtN x.nms) A nn c Ln∧St W wx (fun b=>W.heap[b]?) ((gm,.cells ((newM x.t x.tries).cells (.slice A nn c)) 88 (0,0))::(gs,.cells D0 47 (0,0))::(Ln++[(g,.cells WX 42 (0,0))])))
  case first=>
   refine wp_region_held_drew (S:=fun v=>v.rangeAt g 0 T.toList∧v.cell? ⟨g,75,none⟩=some (.slice x.nA NN x.nc)∧v.cell? ⟨g,76,none⟩=some (.int .i64 x.tries)) (by kernel_rfl) s1 (fun hHeld=>?_)
   refine tk op0 (v:=?_) (by kernel_rfl) ?_ (by assumption) ?_ fun _ _ _ h=>h
   rotate_left
   ·(refine ya rfl fun w hSw=>?_;go_simp;rfl)
   try simp only[Act.put,pu1,pu2,pu3]
   refine tk op1 (v:=?_) (by kernel_rfl) ?_ (by assumption) ?_ fun _ _ _ h=>h
   rotate_left
   ·(((refine yieldsIf_load_mid ?_ 29 (.tmp 29) ?_ g 0 ?_ T.toList _ ?_ HUT.out ?_ TI2.out)<;>first|rfl|exact fun w h=>h.1))
   try simp only[Act.put,pu1,pu2,pu3]
   refine tk op2 (v:=?_) (by kernel_rfl) ?_ (by assumption) ?_ fun _ _ _ h=>h
   rotate_left
   ·(refine ya rfl fun w hSw=>?_;go_simp;rfl)
   try simp only[Act.put,pu1,pu2,pu3]
   refine tk op3 (v:=?_) (by kernel_rfl) ?_ (by assumption) ?_ fun _ _ _ h=>h
   rotate_left
   ·((refine Or.inl ⟨by rfl,?_⟩;intro w hSw;obtain⟨hS1,hS2,hS3⟩:=hSw;go_simp;try with_reducible rfl))
   try simp only[Act.put,pu1,pu2,pu3]
   refine tk op4 (v:=?_) (by kernel_rfl) ?_ (by assumption) ?_ fun _ _ _ h=>h
   rotate_left
   ·(refine ya rfl fun w hSw=>?_;go_simp;rfl)
   try simp only[Act.put,pu1,pu2,pu3]
   refine tk op5 (v:=?_) (by kernel_rfl) ?_ (by assumption) ?_ fun _ _ _ h=>h
   rotate_left
   ·((refine Or.inl ⟨by rfl,?_⟩;intro w hSw;obtain⟨hS1,hS2,hS3⟩:=hSw;go_simp;try with_reducible rfl))
   try simp only[Act.put,pu1,pu2,pu3]
   refine tk op7 (v:=?_) (by kernel_rfl) ?_ (by assumption) ?_ fun _ _ _ h=>h
   rotate_left
   ·(refine ya rfl fun w hSw=>?_;go_simp;rfl)
   try simp only[Act.put,pu1,pu2,pu3]
   refine tk op8 (v:=?_) (by kernel_rfl) ?_ (by assumption) ?_ fun _ _ _ h=>h
   rotate_left
   ·(((refine yieldsIf_load_mid ?_ 29 (.tmp 36) ?_ g 0 ?_ T.toList _ ?_ HUT.out ?_ TI2.out)<;>first|rfl|exact fun w h=>h.1))
   try simp only[Act.put,pu1,pu2,pu3]
   refine tk op9 (v:=?_) (by kernel_rfl) ?_ (by assumption) ?_ fun _ _ _ h=>h
   rotate_left
   ·(refine ya rfl fun w hSw=>?_;go_simp;rfl)
   try simp only[Act.put,pu1,pu2,pu3]
   refine tk (oq op0) (v:=?_) (by kernel_rfl) ?_ (by assumption) ?_ fun _ _ _ h=>h
   rotate_left
   ·((refine Or.inl ⟨by rfl,?_⟩;intro w hSw;obtain⟨hS1,hS2,hS3⟩:=hSw;go_simp;try with_reducible rfl))
   try simp only[Act.put,pu1,pu2,pu3]
   refine tk (oq op1) (v:=?_) (by kernel_rfl) ?_ (by assumption) ?_ fun _ _ _ h=>h
   rotate_left
   ·(refine ya rfl fun w hSw=>?_;go_simp;rfl)
   try simp only[Act.put,pu1,pu2,pu3]
   refine tk (oq op2) (v:=?_) (by kernel_rfl) ?_ (by assumption) ?_ fun _ _ _ h=>h
   rotate_left
   ·((refine Or.inl ⟨by rfl,?_⟩;intro w hSw;obtain⟨hS1,hS2,hS3⟩:=hSw;go_simp;try with_reducible rfl))
   try simp only[Act.put,pu1,pu2,pu3]
   refine rds (i:=6) (rs:=[14]) (by kernel_rfl) ?_;refine .cons op6 (fun K hK=>?_) ?_
   ·go_simp
    ((go_at_call 14;(with_reducible refine(KN.out (by trivial) _ _ (HDW.out)).mono ?_);rintro e1 wx ⟨gm,A,c,Ln,rfl,mo,hx⟩;dsimp only))
    refine hK.out _ _ ?_ fun hHeld=>?_
    ·(try dsimp only)<;>((exact HAT.out _ _ hx (by simp)))
    clear hK K
    try simp only[Act.put,pu1,pu2,pu3]
    refine rds (i:=13) (rs:=[14]) (by kernel_rfl) ?_;refine .cons (oq op3) (fun K hK=>?_) ?_
    ·go_simp
     ((go_at_call 15;(with_reducible refine(KRN.out _ _ (hx)).mono ?_);rintro e1 wy ⟨rfl,hy⟩;dsimp only))
     refine hK.out _ _ ?_ fun hHeld=>?_
     ·(try dsimp only)<;>((exact HAT.out _ _ hy (by simp)))
     clear hK K
     try simp only[Act.put,pu1,pu2,pu3]
     refine rd1 (oq op4) (by kernel_rfl) fun K hK=>?_
     go_simp
     refine hK.out _ _ ?_ fun hHeld=>?_
     ·(try dsimp only)<;>((exact HAT.out _ _ (hy.alloc (.cells Tryz.zeroCells47 47)) (by simp)))
     clear hK K
     try simp only[Act.put,pu1,pu2,pu3]
     refine tk (oq op5) (v:=?_) (by kernel_rfl) ?_ (by assumption) ?_ fun _ _ _ h=>h
     rotate_left
     ·(refine ya rfl fun w hSw=>?_;go_simp;rfl)
     try simp only[Act.put,pu1,pu2,pu3]
     refine rd1 (oq op6) (by kernel_rfl) fun K hK=>?_
     ((refine zq rfl 47 (.tmp 6) (.tmp 42) rfl (g:=wy.heap.size) (off:=0) D0 rfl rfl (hy.alloc (.cells Tryz.zeroCells47 47)) DF.out DI.out DO.out ?_;intro wf hf;rw[DM.out]at hf;dsimp only))
     refine hK.out _ _ ?_ fun hHeld=>?_
     ·(try dsimp only)<;>((exact HAT.out _ _ hf (by simp)))
     clear hK K
     try simp only[Act.put,pu1,pu2,pu3]
     refine wpAnyH_done (by kernel_rfl) ?_ _;go_wp2_with fail;go_meet;exact⟨_,_,_,_,_,rfl,rfl,mo,St.perm (L':=(gm,.cells ((newM x.t x.tries).cells (.slice A nn c)) 88 (0,0))::(_,.cells D0 47 (0,0))::(Ln++[(g,.cells WX 42 (0,0))])) hf ze⟩
    refine .cons (oq op4) (fun K hK=>?_) ?_
    ·go_simp
     refine hK.out _ _ ?_ fun hHeld=>?_
     ·(try dsimp only)<;>((exact HAT.out _ _ (hx.alloc (.cells Tryz.zeroCells47 47)) (by simp)))
     clear hK K
     try simp only[Act.put,pu1,pu2,pu3]
     refine rd1 (oq op3) (by kernel_rfl) fun K hK=>?_
     go_simp
     ((go_at_call 15;(with_reducible refine(KRN.out _ _ (hx.alloc (.cells Tryz.zeroCells47 47))).mono ?_);rintro e1 wy ⟨rfl,hy⟩;dsimp only))
     refine hK.out _ _ ?_ fun hHeld=>?_
     ·(try dsimp only)<;>((exact HAT.out _ _ hy (by simp)))
     clear hK K
     try simp only[Act.put,pu1,pu2,pu3]
     refine tk (oq op5) (v:=?_) (by kernel_rfl) ?_ (by assumption) ?_ fun _ _ _ h=>h
     rotate_left
     ·(refine ya rfl fun w hSw=>?_;go_simp;rfl)
     try simp only[Act.put,pu1,pu2,pu3]
     refine rd1 (oq op6) (by kernel_rfl) fun K hK=>?_
     ((refine zq rfl 47 (.tmp 6) (.tmp 42) rfl (g:=wx.heap.size) (off:=0) D0 rfl rfl (St.perm (L':=(wx.heap.size,.cells Tryz.zeroCells47 47 (0,0))::((gm,.cells ((newM x.t x.tries).cells (.slice A nn c)) 88 (0,0))::(Ln++[(g,.cells WX 42 (0,0))]))) hy ze) DF.out DI.out DO.out ?_;intro wf hf;rw[DM.out]at hf;dsimp only))
     refine hK.out _ _ ?_ fun hHeld=>?_
     ·(try dsimp only)<;>((exact HAT.out _ _ hf (by simp)))
     clear hK K
     try simp only[Act.put,pu1,pu2,pu3]
     refine wpAnyH_done (by kernel_rfl) ?_ _;go_wp2_with fail;go_meet;exact⟨_,_,_,_,_,rfl,rfl,mo,St.perm (L':=(gm,.cells ((newM x.t x.tries).cells (.slice A nn c)) 88 (0,0))::(_,.cells D0 47 (0,0))::(Ln++[(g,.cells WX 42 (0,0))])) hf ze⟩
    exact .nil
   refine .cons (oq op4) (fun K hK=>?_) ?_
   ·go_simp
    refine hK.out _ _ ?_ fun hHeld=>?_
    ·(try dsimp only)<;>((exact HAT.out _ _ HAL.out (by simp)))
    clear hK K
    try simp only[Act.put,pu1,pu2,pu3]
    refine rd1 op6 (by kernel_rfl) fun K hK=>?_
    go_simp
    ((go_at_call 14;(with_reducible refine(KN.out (by trivial) _ _ (HAL.out)).mono ?_);rintro e1 wx ⟨gm,A,c,Ln,rfl,mo,hx⟩;dsimp only))
    refine hK.out _ _ ?_ fun hHeld=>?_
    ·(try dsimp only)<;>((exact HAT.out _ _ hx (by simp)))
    clear hK K
    try simp only[Act.put,pu1,pu2,pu3]
    refine rd1 (oq op3) (by kernel_rfl) fun K hK=>?_
    go_simp
    ((go_at_call 15;(with_reducible refine(KRN.out _ _ (hx)).mono ?_);rintro e1 wy ⟨rfl,hy⟩;dsimp only))
    refine hK.out _ _ ?_ fun hHeld=>?_
    ·(try dsimp only)<;>((exact HAT.out _ _ hy (by simp)))
    clear hK K
    try simp only[Act.put,pu1,pu2,pu3]
    refine tk (oq op5) (v:=?_) (by kernel_rfl) ?_ (by assumption) ?_ fun _ _ _ h=>h
    rotate_left
    ·(refine ya rfl fun w hSw=>?_;go_simp;rfl)
    try simp only[Act.put,pu1,pu2,pu3]
    refine rd1 (oq op6) (by kernel_rfl) fun K hK=>?_
    ((refine zq rfl 47 (.tmp 6) (.tmp 42) rfl (g:=w3.heap.size) (off:=0) D0 rfl rfl (St.perm (L':=(w3.heap.size,.cells Tryz.zeroCells47 47 (0,0))::((gm,.cells ((newM x.t x.tries).cells (.slice A nn c)) 88 (0,0))::(Ln++[(g,.cells WX 42 (0,0))]))) hy ze) DF.out DI.out DO.out ?_;intro wf hf;rw[DM.out]at hf;dsimp only))
    refine hK.out _ _ ?_ fun hHeld=>?_
    ·(try dsimp only)<;>((exact HAT.out _ _ hf (by simp)))
    clear hK K
    try simp only[Act.put,pu1,pu2,pu3]
    refine wpAnyH_done (by kernel_rfl) ?_ _;go_wp2_with fail;go_meet;exact⟨_,_,_,_,_,rfl,rfl,mo,St.perm (L':=(gm,.cells ((newM x.t x.tries).cells (.slice A nn c)) 88 (0,0))::(_,.cells D0 47 (0,0))::(Ln++[(g,.cells WX 42 (0,0))])) hf ze⟩
   exact .nil
  case rest=>
   obtain⟨gm,A,c,Ln,gs,rfl,rfl,mo,h4⟩:=hcut;have H4:=za h4;have MO:=za mo;clear h4 mo c75 c76 R0 H3 HDW HAL s1;obtain⟨ns,hns⟩:∃y,filtN x.nms=y:=⟨_,rfl⟩;rw[hns]at MO HNN;have HNS:=za hns;clear hns;go_wp2_with fail
   go_loopw [45] (fun v45 wr=>∃(k:Nat) (m d:Md),v45=.int .i64 (k:Int)∧k≤NE∧zx m.known=true∧m.Well (100-2*k)∧Near m d∧d.Ok∧MOk (fun b=>W.heap[b]?) m ns A nn c Ln∧St W wr (fun b=>W.heap[b]?) ((gm,.cells (m.cells (.slice A nn c)) 88 (0,0))::(gs,.cells (stC d (.slice x.nA x.nms.length x.nc)) 47 (0,0))::(Ln++[(g,.cells WX 42 (0,0))]))) (fun v45 _=>NE-(intOf v45).toNat)
   case atStart=>exact⟨0,newM x.t x.tries,newM x.t x.tries,rfl,by omega,HRT0.out,W0.out,Near.refl _,D0OK.out,MO.out,by rw[HD0.out];exact H4.out⟩
   case round=>
    obtain⟨k,m,d,rfl,hk,hrt,hwell,near,dok,mo,hst⟩:=hrel;clear H4 MO
    by_cases hkl:k < NE
    ·obtain⟨a,he⟩:∃o,es[k]?=some o:=⟨_,List.getElem?_eq_getElem (by rw[HNE.out];exact hkl)⟩
     obtain⟨b,off,hA,hr⟩:=ERD.out.ak wr _ hst (by simp) k a he
     have aa:=fun(ga:Nat) (v:World) (X:List (Nat × Obj)) (hv:St W v (fun b=>W.heap[b]?) X) (hm:(ga,Obj.cells a.cells 62 (0,0))∈X)=>(⟨(hv.ak hm).call,(hv.ak hm).store,(hv.ak hm).fin,(hv.ak hm).name,(hv.ak hm).fname⟩:v.rangeAt ga 0 a.call.cells.toList∧v.cell? ⟨ga,5,none⟩=some (.int .i64 a.store)∧v.rangeAt ga 6 a.fin.cells.toList∧v.cell? ⟨ga,4,none⟩=some (.string a.call.name)∧v.cell? ⟨ga,12,none⟩=some (.string a.fin.call.name))
     have ap:=APRE.out a (List.mem_of_getElem? he);have asz:a.cells.size=132:=Ak.size ap.fin.fit.size
     have ai:(Tryz.prog.info? 62).map (·.size)=some a.cells.size:=by rw[asz];kernel_rfl
     have ao:=a.one;have h2:=hst.alloc (.cells Tryz.zeroCells62 62);obtain⟨nq,hnq⟩:∃y,a.call.name=y:=⟨_,rfl⟩;obtain⟨nf,hnf⟩:∃y,a.fin.call.name=y:=⟨_,rfl⟩;rw[hnq,hnf]at aa;have cn:=ap.cn;have fn:=ap.fn;rw[hnq]at cn;rw[hnf]at fn;obtain⟨AX,hAX⟩:∃y,a.cells=y:=⟨_,rfl⟩;rw[hAX]at aa asz ai ao hr
     have afit:0+AX.size≤Tryz.zeroCells62.size:=by rw[asz,zask];omega
     have amany:zg Tryz.zeroCells62 0 AX.toList=AX:=by rw[zd _ _ (by rw[Array.length_toList,asz,zask]),Array.toArray_toList]
     have HR2:=za hr;have AAT:=za aa;have AP:=za ap;have AI:=za ai;have AO:=za ao;have AF:=za afit;have AM:=za amany;have H2:=za h2;have HAA:=za hA;have HNQ:=za hnq;have HNF:=za hnf;have MO:=za mo;have NEAR:=za near;have DOK:=za dok;have WELL:=za hwell;have RIGHT:=za hrt;clear hst hr aa ap ai ao afit amany h2 hA hnq hnf asz mo near dok hwell hrt he hAX;rw[HAA.out]
     go_wp2_with (first|(with_reducible refine zb 49 rfl (by kernel_rfl) 62 (.tmp 48) rfl b (off+k*132) rfl AX _ HR2.out Tryz.underlying62 rfl AI.out ?_)|(with_reducible refine zc rfl 62 (.tmp 8) (.tmp 49) rfl (g:=wr.heap.size) (off:=0) AX rfl rfl H2.out AF.out AI.out AO.out ?_;intro w5 h3;refine Hid.out ?_))
     refine za ?_;rw[AM.out]at h3;obtain⟨ga,hga⟩:∃y,wr.heap.size=y:=⟨_,rfl⟩;rw[hga]at h3 ⊢;obtain⟨-,a5,-,a4,a12⟩:=AAT.out _ _ _ h3 (List.mem_cons_self ..);have H3:=za h3;clear h3 H2 HR2 hga
     by_cases n1:200 < nq.size
     ·have b1:decide ((nq.size:Int) > 200)=true:=by simp;omega
      clear n1;go_wp2_with fail;go_ret;exact⟨rfl,FIN.out _ _ H3.out⟩
     have b1:decide ((nq.size:Int) > 200)=false:=by simp;omega
     by_cases n2:200 < nf.size
     ·have b2:decide ((nf.size:Int) > 200)=true:=by simp;omega
      clear n1 n2;go_wp2_with fail;go_ret;exact⟨rfl,FIN.out _ _ H3.out⟩
     have b2:decide ((nf.size:Int) > 200)=false:=by simp;omega
     have qok:=AP.out.call (by rw[HNQ.out];omega);have fok:=AP.out.fin.ok (by rw[HNF.out];omega)
     have qsz:a.call.name.size≤1000000:=by rw[HNQ.out];omega
     have fsz:a.fin.call.name.size≤1000000:=by rw[HNF.out];omega
     clear n1 n2;have x0:=AP.out.s0;have x1:=AP.out.s1;obtain⟨db0,db1⟩:=NEAR.out.ok DOK.out MO.out.b0 MO.out.b1
     have hnl:x.nms.length≤1000:=by rw[HNL.out];have:=HNL10.out;omega
     have hns1:∀s∈x.nms,s.size≤1000000:=fun s hs=>by have:=HNSZ.out s hs;omega
     obtain⟨rn1,rn2,rn3⟩:=reply_near (ns:=x.nms) (q:=a.call) (x:=a.store) RIGHT.out NEAR.out;rw[HNS.out]at rn1 rn2 rn3;have rok:=replyM_ok MO.out a.call qok a.store x0 x1;have cok:=zbb (ns:=x.nms) (q:=a.call) (store:=a.store) DOK.out db0 db1 qok x0 x1
     have k0:(-9223372036854775808:Int)≤(k:Int):=by omega
     have k1:(k:Int)≤9223372036854775807:=by omega
     have e0ok:=mkE_ok (k:=(k:Int)) k0 k1 qok rok x0 x1;have e1ok:=otherE_ok (k:=(k:Int)) k0 k1 qok rok x0 x1;have e1no:=other_none (m:=m) (ns:=ns) (k:=(k:Int)) (q:=a.call) (x:=a.store) rok;have eset:=otherE_set (k:=(k:Int)) (q:=a.call) (x:=a.store) rok
     have kr:=fun(v:World) (X:List (Nat × Obj)) (hLn:∀p∈Ln,p∈X) (hv:St W v (fun b=>W.heap[b]?) X) (hm:(gm,.cells (m.cells (.slice A nn c)) 88 (0,0))∈X)=>o_reply TB0.out MO.out a.call qok qsz a.store x0 x1 hLn hv hm
     have kc:=fun(v:World) (X:List (Nat × Obj)) (hv:St W v (fun b=>W.heap[b]?) X)=>zbq (c:=x.nc) (ns:=x.nms) TB0.out a.call qok qsz DOK.out db0 db1 x.nrd hnl hns1 (by simp) a.store hv
     have ks0:=fun(nv:Value) (gm:Nat) (v:World) (X:List (Nat × Obj)) (hv:St W v (fun b=>W.heap[b]?) X) (hx:(gm,Obj.cells (m.cells nv) 88 (0,0))∈X)=>o_same (nd:=(.slice x.nA x.nms.length x.nc)) MO.out.ok DOK.out NEAR.out rfl hv hx
     have kcp:=fun(v:World) (X:List (Nat × Obj)) (hLn:∀p∈Ln,p∈X) (hv:St W v (fun b=>W.heap[b]?) X) (hm:(gm,.cells (m.cells (.slice A nn c)) 88 (0,0))∈X)=>o_copy MO.out hLn hv hm
     obtain⟨md1,md2⟩:=made_do (d:=d) (nms:=x.nms) (k:=(k:Int)) (q:=a.call) (r:=(zbl m ns a.call a.store).1) (x:=a.store) (fun h=>(rn2 (rn1.trans h)).symm);obtain⟨dn1,dn2⟩:=do_near (ns:=x.nms) (e:=mkE k a.call (zbl m ns a.call a.store).1 a.store) RIGHT.out NEAR.out;rw[HNS.out]at dn1 dn2;have well1:=zbo (k:=100-2*k-1) (by rw[show 100-2*k-1+1=100-2*k by omega];exact WELL.out) ns _ e0ok;have right1:=zbm RIGHT.out ns (mkE k a.call (zbl m ns a.call a.store).1 a.store);have dok1:=doD_ok (nms:=x.nms) DOK.out db0 db1 e0ok
     have kd0:=fun(v:World) (X:List (Nat × Obj)) (hL:∀p∈Ln,p∈X) (hv:St W v (fun b=>W.heap[b]?) ((gm,.cells (m.cells (.slice A nn c)) 88 (0,0))::X))=>o_do TB0.out MO.out (mkE k a.call (zbl m ns a.call a.store).1 a.store) e0ok qsz hL hv
     have kd1:=fun(A':Option Addr) (c':Nat) (L':List (Nat × Obj)) (mo':MOk (fun b=>W.heap[b]?) m ns A' nn c' L') (gm:Nat) (v:World) (X:List (Nat × Obj)) (hL:∀p∈L',p∈X) (hv:St W v (fun b=>W.heap[b]?) ((gm,.cells (m.cells (.slice A' nn c')) 88 (0,0))::X))=>o_do TB0.out mo' (zbp k a.call (zbl m ns a.call a.store).1 a.store) e1ok qsz hL hv
     simp only[e1no,Option.isSome_none,Option.getD_none]at kd1
     have bb:=fun(v:World)=>run_build_bare (mkE k a.call (zbl m ns a.call a.store).1 a.store) e0ok v
     rw[mkE_bare]at bb;rw[←dn1,md1]at kd0;rw[md2]at dn2 dok1;generalize hD1:(if (callD d x.nms a.call a.store).2.2=true then (callD d x.nms a.call a.store).1 else d)=d1 at *;obtain⟨m1,hm1⟩:∃y,(doM m ns (mkE k a.call (zbl m ns a.call a.store).1 a.store)).getD m=y:=⟨_,rfl⟩;rw[hm1]at dn2 well1 right1 kd0;have mo1:MOk (fun b=>W.heap[b]?) m1 ns A nn c Ln:=⟨well1.ok,well1.b0,by have:=well1.b1;omega,MO.out.names,MO.out.few⟩;obtain⟨eb0,eb1⟩:=dn2.ok dok1 mo1.b0 mo1.b1;obtain⟨fn1,fn2⟩:=do_near (ns:=x.nms) (e:=a.fin) right1 dn2;rw[HNS.out]at fn1 fn2;have well2:=zbo (k:=100-2*(k+1)) (by rw[show 100-2*(k+1)+1=100-2*k-1 by omega];exact well1) ns a.fin fok;have right2:=zbm right1 ns a.fin;have dok2:=doD_ok (nms:=x.nms) (e:=a.fin) dok1 eb0 eb1 fok
     have kf:=fun(v:World) (X:List (Nat × Obj)) (hL:∀p∈Ln,p∈X) (hv:St W v (fun b=>W.heap[b]?) ((gm,.cells (m1.cells (.slice A nn c)) 88 (0,0))::X))=>o_do TB0.out mo1 a.fin fok fsz hL hv
     have kfd:=fun(v:World) (X:List (Nat × Obj)) (hv:St W v (fun b=>W.heap[b]?) X)=>r26_do (c:=x.nc) (ns:=x.nms) TB0.out a.fin fok fsz dok1 eb0 eb1 x.nrd hnl hns1 (by simp) hv
     rw[←fn1]at kf;unfold EPost at kfd;obtain⟨⟨d2,ob2⟩,hDD⟩:∃z,doD d1 x.nms a.fin=z:=⟨_,rfl⟩;rw[hDD]at fn2 dok2 kf kfd;dsimp only at fn2 dok2 kf kfd;obtain⟨m2,hm2⟩:∃y,(doM m1 ns a.fin).getD m1=y:=⟨_,rfl⟩;rw[hm2]at fn2 well2 right2 kf;have mo2:MOk (fun b=>W.heap[b]?) m2 ns A nn c Ln:=⟨well2.ok,well2.b0,by have:=well2.b1;omega,MO.out.names,MO.out.few⟩
     have ks2:=fun(v:World) (X:List (Nat × Obj)) (hv:St W v (fun b=>W.heap[b]?) X) (hx:(gm,Obj.cells (m2.cells (.slice A nn c)) 88 (0,0))∈X)=>o_same (nd:=(.slice x.nA x.nms.length x.nc)) mo2.ok dok2 fn2 rfl hv hx
     have frel:∀v:World,St W v (fun b=>W.heap[b]?) ((gm,.cells (m2.cells (.slice A nn c)) 88 (0,0))::(gs,.cells (stC d2 (.slice x.nA x.nms.length x.nc)) 47 (0,0))::(Ln++[(g,.cells WX 42 (0,0))]))→∃(k':Nat) (m d:Md),(Value.int .i64 ((k:Int)+1))=.int .i64 (k':Int)∧k'≤NE∧zx m.known=true∧m.Well (100-2*k')∧Near m d∧d.Ok∧MOk (fun b=>W.heap[b]?) m ns A nn c Ln∧St W v (fun b=>W.heap[b]?) ((gm,.cells (m.cells (.slice A nn c)) 88 (0,0))::(gs,.cells (stC d (.slice x.nA x.nms.length x.nc)) 47 (0,0))::(Ln++[(g,.cells WX 42 (0,0))])):=fun v hv=>⟨k+1,m2,d2,by go_num,by omega,right2,well2,fn2,dok2,mo2,hv⟩
     unfold DPost at kc
     have heqr:=fun(v:World)=>qn (zbl m ns a.call a.store).1 (zbl m ns a.call a.store).1 rok rok v
     rw[show eqRy (zbl m ns a.call a.store).1 (zbl m ns a.call a.store).1=true from (zao _ _).2 rfl]at heqr
     have heqz:=fun(v:World)=>qn zRy zRy (jx 0 (by decide) (by decide)) (jx 0 (by decide) (by decide)) v
     rw[show eqRy zRy zRy=true from (zao _ _).2 rfl]at heqz;have bzr:=km;have i0:=zz (nv:=(.slice x.nA x.nms.length x.nc)) DOK.out;have i1s:=zz (nv:=(.slice x.nA x.nms.length x.nc)) dok1;have i2:=zz (nv:=(.slice x.nA x.nms.length x.nc)) dok2;have ic:=zz (nv:=(.slice x.nA x.nms.length x.nc)) cok.1;have o2:=ye (m:=d2) (nv:=(.slice x.nA x.nms.length x.nc)) rfl;have oc:=ye (m:=(callD d x.nms a.call a.store).1) (nv:=(.slice x.nA x.nms.length x.nc)) rfl;have z0:=zy (nv:=(.slice x.nA x.nms.length x.nc)) DOK.out;have z1:=zy (nv:=(.slice x.nA x.nms.length x.nc)) dok1;have z2:=zy (nv:=(.slice x.nA x.nms.length x.nc)) dok2;have zc:=zy (nv:=(.slice x.nA x.nms.length x.nc)) cok.1;have rs:=Ry.size rok.t;have ri:=yu rok.t;have ro:=Ry.one (zbl m ns a.call a.store).1;have rj:(zbl m ns a.call a.store).1.cells[1]?=some (.int .i64 (zbl m ns a.call a.store).1.job):=rfl;have cs:=Ry.size cok.2.t;have ci:=yu cok.2.t;have co:=Ry.one (callD d x.nms a.call a.store).2.1;have qi:=ky a.call;have fi:=qk fok;have es:=En.size e0ok;have ei:=qk e0ok;have eo:=En.one (mkE k a.call (zbl m ns a.call a.store).1 a.store);have ei1:=qk e1ok
     have ea:=fun(ge:Nat) (v:World) (X:List (Nat × Obj)) (hv:St W v (fun b=>W.heap[b]?) X) (hm:(ge,Obj.cells (mkE k a.call (zbl m ns a.call a.store).1 a.store).cells 54 (0,0))∈X)=>(⟨(hv.whole hm),(hv.en e0ok hm).rep 1 _ (by rw[Array.getElem?_toList];exact rj)⟩:v.rangeAt ge 0 (mkE k a.call (zbl m ns a.call a.store).1 a.store).cells.toList∧v.cell? ⟨ge,8,none⟩=some (.int .i64 (zbl m ns a.call a.store).1.job))
     unfold Cl.val at *;unfold En.val at *;rw[←rn1]at md1 kd0
     have hres:∀b,(zbl m ns a.call a.store).2=b→(callD d x.nms a.call a.store).2.2=b:=fun b h=>rn1.symm.trans h
     have t1:(zbl m ns a.call a.store).2=true→stC d1 (.slice x.nA x.nms.length x.nc)=stC (callD d x.nms a.call a.store).1 (.slice x.nA x.nms.length x.nc):=fun h=>by rw[←hD1,if_pos (hres _ h)]
     have t2:(zbl m ns a.call a.store).2=false→stC d1 (.slice x.nA x.nms.length x.nc)=stC d (.slice x.nA x.nms.length x.nc):=fun h=>by rw[←hD1,if_neg (by rw[hres _ h];decide)]
     have t3:(zbl m ns a.call a.store).2=true→(callD d x.nms a.call a.store).2.1.cells=(zbl m ns a.call a.store).1.cells:=fun h=>by rw[rn2 h]
     have t4:(zbl m ns a.call a.store).2=false→(zbl m ns a.call a.store).1.cells=zRy.cells:=fun h=>by rw[rn3 h]
     rw[←rn1]at kc;clear hres hD1 md1 md2 dn1 hDD hm1 hm2 fn1 rn1 rn2 rn3 e1no;obtain⟨ob,hob⟩:∃y,(zbl m ns a.call a.store).2=y:=⟨_,rfl⟩;rw[hob]at kr kc kd0 t1 t2 t3 t4;have bb:∀v,(Instr.build 54 #[(0,.int .i64 1),(1,.int .i64 (k:Int)),(2,.agg a.call.cells),(3,.agg (zbl m ns a.call a.store).1.cells),(4,.int .i64 a.store)]).run Tryz.prog v=.ok (.agg (mkE k a.call (zbl m ns a.call a.store).1 a.store).cells) v:=bb;obtain⟨E0,hE0⟩:∃y,(mkE k a.call (zbl m ns a.call a.store).1 a.store).cells=y:=⟨_,rfl⟩;obtain⟨E1,hE1⟩:∃y,(zbp k a.call (zbl m ns a.call a.store).1 a.store).cells=y:=⟨_,rfl⟩;rw[hE0]at bb kd0 es ei eo ea eset;rw[hE1]at kd1 ei1 eset;obtain⟨RJ,hRJ⟩:∃y,(zbl m ns a.call a.store).1.job=y:=⟨_,rfl⟩;rw[hRJ]at ea eset;obtain⟨RC,hRC⟩:∃y,(zbl m ns a.call a.store).1.cells=y:=⟨_,rfl⟩;rw[hRC]at kr bb heqr rs ri ro t3 t4;obtain⟨RR,hRR⟩:∃y,(callD d x.nms a.call a.store).2.1.cells=y:=⟨_,rfl⟩;rw[hRR]at kc cs ci co t3;obtain⟨ZR,hZR⟩:∃y,zRy.cells=y:=⟨_,rfl⟩;rw[hZR]at heqz bzr t4;obtain⟨CC,hCC⟩:∃y,a.call.cells=y:=⟨_,rfl⟩;obtain⟨FX,hFX⟩:∃y,a.fin.cells=y:=⟨_,rfl⟩;have aat:=AAT.out;rw[hCC]at kr kc bb qi aat;rw[hFX]at kf kfd fi aat;clear AAT;obtain⟨D0',hD0'⟩:∃y,stC d (.slice x.nA x.nms.length x.nc)=y:=⟨_,rfl⟩;obtain⟨DC,hDC⟩:∃y,stC (callD d x.nms a.call a.store).1 (.slice x.nA x.nms.length x.nc)=y:=⟨_,rfl⟩;obtain⟨D1,hD1⟩:∃y,stC d1 (.slice x.nA x.nms.length x.nc)=y:=⟨_,rfl⟩;obtain⟨D2,hD2⟩:∃y,stC d2 (.slice x.nA x.nms.length x.nc)=y:=⟨_,rfl⟩;obtain⟨MF,hMF⟩:∃y,m.cells=y:=⟨_,rfl⟩
     obtain⟨M1,hM1⟩:∃y,m1.cells (.slice A nn c)=y:=⟨_,rfl⟩;obtain⟨M2,hM2⟩:∃y,m2.cells (.slice A nn c)=y:=⟨_,rfl⟩;have h3:=H3.out;rw[hMF,hD0']at h3;rw[hMF]at kr kcp kd0 kd1 ks0;rw[hD0']at kc ks0 i0 z0 t2;rw[hDC]at kc ic oc zc t1;rw[hD1]at t1 t2 kfd i1s z1;rw[hD2]at kfd ks2 frel i2 o2 z2;rw[hM1]at kd0 kf;rw[hM2]at kf ks2 frel
     have ks0:=fun(nv:Value)=>ks0 nv
     obtain⟨M0,hM0⟩:∃y,MF (.slice A nn c)=y:=⟨_,rfl⟩;have ksm:=ks0 (.slice A nn c) gm;rw[hM0]at kr kcp kd0 h3 ksm
     have fst:=fun(gx:Nat) (Y:Array Value) (T:TypeId) (v:World) (X:List (Nat × Obj)) (hv:St W v (fun b=>W.heap[b]?) X) (hm:(gx,Obj.cells Y T (0,0))∈X)=>(hv.whole hm:v.rangeAt gx 0 Y.toList)
     have rfit:0+RC.size≤Tryz.zeroCells52.size:=by rw[rs,zry];omega
     have rmany:zg Tryz.zeroCells52 0 RC.toList=RC:=by rw[zd _ _ (by rw[Array.length_toList,rs,zry]),Array.toArray_toList]
     have cfit:0+RR.size≤Tryz.zeroCells52.size:=by rw[cs,zry];omega
     have cmany:zg Tryz.zeroCells52 0 RR.toList=RR:=by rw[zd _ _ (by rw[Array.length_toList,cs,zry]),Array.toArray_toList]
     have dfit:0+DC.size≤Tryz.zeroCells47.size:=by rw[zc,zst];omega
     have dmany:zg Tryz.zeroCells47 0 DC.toList=DC:=by rw[zd _ _ (by rw[Array.length_toList,zc,zst]),Array.toArray_toList]
     have efit:0+E0.size≤Tryz.zeroCells54.size:=by rw[es,zent];omega
     have emany:zg Tryz.zeroCells54 0 E0.toList=E0:=by rw[zd _ _ (by rw[Array.length_toList,es,zent]),Array.toArray_toList]
     have nfit:0+DC.size≤D0'.size:=by rw[zc,z0];omega
     have nmany:zg D0' 0 DC.toList=DC:=by rw[zd _ _ (by rw[Array.length_toList,zc,z0]),Array.toArray_toList]
     have pfit:0+D2.size≤D1.size:=by rw[z2,z1];omega
     have pmany:zg D1 0 D2.toList=D2:=by rw[zd _ _ (by rw[Array.length_toList,z2,z1]),Array.toArray_toList]
     have e8:8 < E0.size:=by rw[es];decide
     have bl:=lv_ne ob;have bl2:=lv_ne ob2;have XKR:=za kr;have XKC:=za kc;have XKD0:=za kd0;have XKD1:=za kd1;have XKS0:=za ks0;have XKSM:=za ksm;have XKCP:=za kcp;have XKF:=za kf;have XKFD:=za kfd;have XKS2:=za ks2;have XFREL:=za frel;have XAAT:=za aat;have XT1:=za t1;have XT2:=za t2;have XT3:=za t3;have XT4:=za t4;have XBB:=za bb;have XESET:=za eset;have XEA:=za ea;have XBZR:=za bzr;have XI0:=za i0;have XI1S:=za i1s;have XI2:=za i2;have XIC:=za ic;have XO2:=za o2;have XOC:=za oc;have XRI:=za ri;have XRO:=za ro;have XCI:=za ci;have XCO:=za co;have XQI:=za qi;have XFI:=za fi;have XEI:=za ei;have XEO:=za eo;have XEI1:=za ei1;have XRFIT:=za rfit;have XRMANY:=za rmany;have XCFIT:=za cfit;have XCMANY:=za cmany;have XDFIT:=za dfit;have XDMANY:=za dmany;have XEFIT:=za efit;have XEMANY:=za emany;have XNFIT:=za nfit;have XNMANY:=za nmany;have XPFIT:=za pfit;have XPMANY:=za pmany;have XE8:=za e8;have XFST:=za fst;have XH3:=za h3;clear kr kc kd0 kd1 ks0 ksm kcp kf kfd ks2 frel aat t1 t2 t3 t4 bb eset ea bzr i0 i1s i2 ic o2 oc ri ro ci co qi fi ei eo ei1 rfit rmany cfit cmany dfit dmany efit emany nfit nmany pfit pmany e8 fst h3 H3 es z0 z1 z2 zc rs cs rj qok fok qsz fsz x0 x1 db0 db1 eb0 eb1 hnl hns1 rok cok k0 k1 e0ok e1ok dn2 well1 right1 dok1 mo1 fn2 well2 right2 dok2 mo2 hob hE0 hE1 hRJ hRC hRR hZR hCC hFX hD0' hDC hD1 hD2 hMF hM1 hM2 hM0 AP WELL RIGHT HNQ HNF HAA NEAR DOK;have XI1:=za (show(Tryz.prog.info? 3).map (·.size)=some 1 by kernel_rfl)
     go_wp2_with (with_reducible refine zb 66 rfl (by kernel_rfl) 50 (.tmp 65) rfl ga 0 rfl CC _ (XAAT.out _ _ _ XH3.out (by simp)).1 Tryz.underlying50 rfl XQI.out ?_)
     go_at_call 19;refine(XKR.out _ _ (fun p hp=>by simp[hp]) XH3.out (by simp)).mono ?_;rintro e1 w4 ⟨rfl,h4⟩;have h5:=h4.alloc (.cells Tryz.zeroCells52 52);have H5:=za h5;clear h4 h5 XH3 a4 a5 a12
     go_wp2_with (with_reducible refine zc rfl 52 (.tmp 9) (.tmp 70) rfl (g:=w4.heap.size) (off:=0) RC rfl rfl H5.out XRFIT.out XRI.out XRO.out ?_;intro w5 h6;refine Hid.out ?_)
     refine za ?_;rw[XRMANY.out]at h6;obtain⟨gr,hgr⟩:∃y,w4.heap.size=y:=⟨_,rfl⟩;rw[hgr]at h6 ⊢;obtain⟨-,a5,-⟩:=XAAT.out ga _ _ h6 (by simp);have H6:=za h6;clear h6 H5 hgr
     go_wp2_with (first|(with_reducible refine zb 73 rfl (by kernel_rfl) 47 (.tmp 6) rfl gs 0 rfl D0' _ (XFST.out _ _ 47 _ _ H6.out (by simp)) Tryz.underlying47 rfl XI0.out ?_)|(with_reducible refine zb 75 rfl (by kernel_rfl) 50 (.tmp 74) rfl ga 0 rfl CC _ (XAAT.out _ _ _ H6.out (by simp)).1 Tryz.underlying50 rfl XQI.out ?_))
     go_at_call 20;refine(XKC.out _ _ H6.out).mono ?_;rintro e1 w7 ⟨rfl,h7⟩;have h8:=(h7.alloc (.cells Tryz.zeroCells47 47)).alloc (.cells Tryz.zeroCells52 52);obtain⟨gc,hgc⟩:∃y,w7.heap.size=y:=⟨_,rfl⟩;simp only[World.size_alloc,hgc]at h8;have h9:=h8.perm (L':=(gc,.cells Tryz.zeroCells47 47 (0,0))::(gc+1,.cells Tryz.zeroCells52 52 (0,0))::(gr,.cells RC 52 (0,0))::(ga,.cells AX 62 (0,0))::(gm,.cells M0 88 (0,0))::(gs,.cells D0' 47 (0,0))::(Ln++[(g,.cells WX 42 (0,0))])) ze;have H9:=za h9;clear h7 h8 h9 H6 a5
     go_wp2_with (with_reducible refine zc rfl 47 (.tmp 11) (.tmp 79) rfl (g:=gc) (off:=0) DC rfl rfl H9.out XDFIT.out XIC.out XOC.out ?_;intro w5 h6;refine Hid.out ?_)
     refine za ?_;rw[XDMANY.out]at h6;have h7:=h6.perm (L':=(gc+1,.cells Tryz.zeroCells52 52 (0,0))::(gc,.cells DC 47 (0,0))::(gr,.cells RC 52 (0,0))::(ga,.cells AX 62 (0,0))::(gm,.cells M0 88 (0,0))::(gs,.cells D0' 47 (0,0))::(Ln++[(g,.cells WX 42 (0,0))])) ze;have H10:=za h7;clear h6 h7 H9 hgc
     go_wp2_with (with_reducible refine zc rfl 52 (.tmp 12) (.tmp 80) rfl (g:=gc+1) (off:=0) RR rfl rfl H10.out XCFIT.out XCI.out XCO.out ?_;intro w5 h6;refine Hid.out ?_)
     refine za ?_;rw[XCMANY.out]at h6;have H11:=za h6;clear h6 H10
     go_upto_region 13 with fail
     go_cut [107] (fun s107 wx=>s107=.bool false∧St W wx (fun b=>W.heap[b]?) ((gc+1,.cells RR 52 (0,0))::(gc,.cells DC 47 (0,0))::(gr,.cells RC 52 (0,0))::(ga,.cells AX 62 (0,0))::(gm,.cells M0 88 (0,0))::(gs,.cells D0' 47 (0,0))::(Ln++[(g,.cells WX 42 (0,0))])))
     case first=>
      cases ob with
      | true=>
       have hq:∀v,(Op.equalIn 10000 52 (.agg RC) (.agg RR)).run Tryz.prog v=.ok true v:=by rw[XT3.out (by trivial)];exact heqr
       go_wp2_with (first|(with_reducible refine zb 88 rfl (by kernel_rfl) 52 (.tmp 9) rfl gr 0 rfl RC _ (XFST.out _ _ 52 _ _ H11.out (by simp)) Tryz.underlying52 rfl XRI.out ?_)|(with_reducible refine zb 89 rfl (by kernel_rfl) 52 (.tmp 12) rfl (gc+1) 0 rfl RR _ (XFST.out _ _ 52 _ _ H11.out (by simp)) Tryz.underlying52 rfl XCI.out ?_)|(with_reducible refine zb 104 rfl (by kernel_rfl) 47 (.tmp 6) rfl gs 0 rfl D0' _ (XFST.out _ _ 47 _ _ H11.out (by simp)) Tryz.underlying47 rfl XI0.out ?_))
       go_at_call 18;refine(XKSM.out _ _ H11.out (by simp)).mono ?_;rintro e1 w9 ⟨rfl,h9⟩;have H12:=za h9;clear h9 H11;go_wp2_with fail;go_meet;exact⟨rfl,H12.out⟩
      | false=>
       have RZ:=XT4.out (by trivial);rw[RZ]at H11 XRI
       go_wp2_with (first|(with_reducible refine zb 97 rfl (by kernel_rfl) 52 (.tmp 9) rfl gr 0 rfl ZR _ (XFST.out _ _ 52 _ _ H11.out (by simp)) Tryz.underlying52 rfl XRI.out ?_)|(with_reducible refine yt 98 rfl (by kernel_rfl) 52 _ rfl _ ?_ (XBZR.out _) ?_;·go_simp)|(with_reducible refine zb 104 rfl (by kernel_rfl) 47 (.tmp 6) rfl gs 0 rfl D0' _ (XFST.out _ _ 47 _ _ H11.out (by simp)) Tryz.underlying47 rfl XI0.out ?_))
       go_at_call 18;refine(XKSM.out _ _ H11.out (by simp)).mono ?_;rintro e1 w9 ⟨rfl,h9⟩;rw[←RZ]at h9;have H12:=za h9;clear h9 H11;go_wp2_with fail;go_meet;exact⟨rfl,H12.out⟩
     case rest=>
      obtain⟨rfl,h9⟩:=hcut;clear H11;obtain⟨-,a5,-⟩:=XAAT.out ga _ _ h9 (by simp);have h10:=h9.alloc (.cells Tryz.zeroCells54 54);have H9:=za h9;have H10:=za h10;clear h9 h10
      go_wp2_with (first|(with_reducible refine zb 110 rfl (by kernel_rfl) 50 (.tmp 109) rfl ga 0 rfl CC _ (XAAT.out _ _ _ H9.out (by simp)).1 Tryz.underlying50 rfl XQI.out ?_)|(with_reducible refine zb 111 rfl (by kernel_rfl) 52 (.tmp 9) rfl gr 0 rfl RC _ (XFST.out _ _ 52 _ _ H9.out (by simp)) Tryz.underlying52 rfl XRI.out ?_)|(with_reducible refine zh rfl 54 _ rfl _ ?_ (XBB.out _) ?_;·go_simp)|(with_reducible refine zc rfl 54 (.tmp 14) (.tmp 114) rfl (g:=wc.heap.size) (off:=0) E0 rfl rfl H10.out XEFIT.out XEI.out XEO.out ?_;intro w5 h6;refine Hid.out ?_))
      refine za ?_;rw[XEMANY.out]at h6;obtain⟨ge,hge⟩:∃y,wc.heap.size=y:=⟨_,rfl⟩;rw[hge]at h6 ⊢;have h7:=h6.alloc (.cells Tryz.zeroCells54 54);have H11:=za h6;have H12:=za h7;clear h6 h7 H10 H9 hge a5
      go_wp2_with (first|(with_reducible refine zb 115 rfl (by kernel_rfl) 54 (.tmp 14) rfl ge 0 rfl E0 _ (XFST.out _ _ 54 _ _ H11.out (by simp)) Tryz.underlying54 rfl XEI.out ?_)|(with_reducible refine zc rfl 54 (.tmp 15) (.tmp 115) rfl (g:=w5.heap.size) (off:=0) E0 rfl rfl H12.out XEFIT.out XEI.out XEO.out ?_;intro w6 h6;refine Hid.out ?_))
      refine za ?_;rw[XEMANY.out]at h6;obtain⟨g5,hg5⟩:∃y,w5.heap.size=y:=⟨_,rfl⟩;rw[hg5]at h6 ⊢;have c8:=(XEA.out g5 _ _ h6 (by simp)).2;have H13:=za h6;clear h6 H12 H11 hg5
      go_wp2_with (with_reducible refine zk rfl 3 (.tmp 121) (.tmp 119) rfl (g:=g5) (off:=8) (.int .i64 (wrap64 (RJ+1))) rfl rfl rfl H13.out XE8.out XI1.out rfl ?_;intro w7 h6;refine Hid.out ?_)
      refine za ?_;rw[XESET.out]at h6;have H14:=za h6;clear h6 H13 c8;go_wp2_with fail;go_at_call 21;refine(XKCP.out _ _ (fun p hp=>by simp[hp]) H14.out (by simp)).mono ?_;rintro e1 w8 ⟨gk,A',c',L',rfl,mo',h8⟩;have KD1:=za (XKD1.out A' c' L' mo' gk);have h8:St W w8 (fun b=>W.heap[b]?) ((gk,.cells (MF (.slice A' nn c')) 88 (0,0))::(L'++((g5,.cells E1 54 (0,0))::(ge,.cells E0 54 (0,0))::(gc+1,.cells RR 52 (0,0))::(gc,.cells DC 47 (0,0))::(gr,.cells RC 52 (0,0))::(ga,.cells AX 62 (0,0))::(gm,.cells M0 88 (0,0))::(gs,.cells D0' 47 (0,0))::(Ln++[(g,.cells WX 42 (0,0))])))):=h8;have H15:=za h8;clear h8 mo' H14 XKCP XKD1
      go_wp2_with (with_reducible refine zb 125 rfl (by kernel_rfl) 54 (.tmp 15) rfl g5 0 rfl E1 _ (XFST.out _ _ 54 _ _ H15.out (by simp)) Tryz.underlying54 rfl XEI1.out ?_)
      go_at_call 17;refine(KD1.out _ _ (fun p hp=>by simp[hp]) H15.out).mono ?_;rintro e1 w9 ⟨rfl,h9⟩;have KS1:=za (XKS0.out (.slice A' nn c') gk _ _ h9 (by simp));have H16:=za h9;clear h9 H15 KD1 XKS0
      go_wp2_with (with_reducible refine zb 129 rfl (by kernel_rfl) 47 (.tmp 6) rfl gs 0 rfl D0' _ (XFST.out _ _ 47 _ _ H16.out (by simp)) Tryz.underlying47 rfl XI0.out ?_)
      go_at_call 18;refine KS1.out.mono ?_;rintro e1 w10 ⟨rfl,h10⟩;have h11:=h10.perm (L':=(gm,.cells M0 88 (0,0))::(((gk,.cells (MF (.slice A' nn c')) 88 (0,0))::(L'++[(g5,.cells E1 54 (0,0))]))++((ge,.cells E0 54 (0,0))::(gc+1,.cells RR 52 (0,0))::(gc,.cells DC 47 (0,0))::(gr,.cells RC 52 (0,0))::(ga,.cells AX 62 (0,0))::(gs,.cells D0' 47 (0,0))::(Ln++[(g,.cells WX 42 (0,0))])))) ze;have H17:=za h11;clear h10 h11 KS1 H16
      go_wp2_with (with_reducible refine zb 135 rfl (by kernel_rfl) 54 (.tmp 14) rfl ge 0 rfl E0 _ (XFST.out _ _ 54 _ _ H17.out (by simp)) Tryz.underlying54 rfl XEI.out ?_)
      go_at_call 17;refine(XKD0.out _ _ (fun p hp=>by simp[hp]) H17.out).mono ?_;rintro e1 w11 ⟨rfl,h11⟩;have h12:=h11.keep (M:=(gs,.cells D0' 47 (0,0))::(gm,.cells M1 88 (0,0))::(gc,.cells DC 47 (0,0))::(ga,.cells AX 62 (0,0))::(Ln++[(g,.cells WX 42 (0,0))])) (((gk,.cells (MF (.slice A' nn c')) 88 (0,0))::(L'++[(g5,.cells E1 54 (0,0))]))++[(ge,.cells E0 54 (0,0)),(gc+1,.cells RR 52 (0,0)),(gr,.cells RC 52 (0,0))]) (fun i a=>by simp only[List.count_append,List.count_cons,List.count_nil]<;>omega);have H18:=za h12;clear h11 h12 H17 XKD0
      go_upto_if 140 with fail
      go_cut [10] (fun s10 wx=>s10=.bool ob∧St W wx (fun b=>W.heap[b]?) ((gs,.cells D1 47 (0,0))::(gm,.cells M1 88 (0,0))::(gc,.cells DC 47 (0,0))::(ga,.cells AX 62 (0,0))::(Ln++[(g,.cells WX 42 (0,0))])))
      case first=>
       cases ob with
       | true=>
        go_wp2_with (first|(with_reducible refine zb 141 rfl (by kernel_rfl) 47 (.tmp 11) rfl gc 0 rfl DC _ (XFST.out _ _ 47 _ _ H18.out (by simp)) Tryz.underlying47 rfl XIC.out ?_)|(with_reducible refine zc rfl 47 (.tmp 6) (.tmp 141) rfl (g:=gs) (off:=0) DC rfl rfl H18.out XNFIT.out XIC.out XOC.out ?_;intro w12 h6;refine Hid.out ?_))
        refine za ?_;rw[XNMANY.out]at h6;have H19:=za h6;clear h6 H18;go_wp2_with fail;go_meet;refine⟨rfl,?_⟩;rw[XT1.out (by trivial)];exact H19.out
       | false=>
        rw[←XT2.out (by trivial)]at H18;go_wp2_with fail;go_meet;exact⟨rfl,H18.out⟩
      case rest=>
       obtain⟨rfl,h19⟩:=hcut;have H19:=za h19;clear h19 H18
       go_wp2_with (first|(with_reducible refine zb 143 rfl (by kernel_rfl) 47 (.tmp 6) rfl gs 0 rfl D1 _ (XFST.out _ _ 47 _ _ H19.out (by simp)) Tryz.underlying47 rfl XI1S.out ?_)|(with_reducible refine zb 145 rfl (by kernel_rfl) 54 (.tmp 144) rfl ga 6 rfl FX _ (XAAT.out _ _ _ H19.out (by simp)).2.2.1 Tryz.underlying54 rfl XFI.out ?_))
       go_at_call 16;refine(XKFD.out _ _ H19.out).mono ?_;rintro e1 w13 ⟨rfl,h13⟩;have H20:=za h13;clear h13 H19 XKFD
       go_wp2_with (with_reducible refine zc rfl 47 (.tmp 6) (.tmp 147) rfl (g:=gs) (off:=0) D2 rfl rfl H20.out XPFIT.out XI2.out XO2.out ?_;intro w14 h6;refine Hid.out ?_)
       refine za ?_;rw[XPMANY.out]at h6;have h7:=h6.perm (L':=(gm,.cells M1 88 (0,0))::((gs,.cells D2 47 (0,0))::(gc,.cells DC 47 (0,0))::(ga,.cells AX 62 (0,0))::(Ln++[(g,.cells WX 42 (0,0))]))) ze;have H21:=za h7;clear h6 h7 H20
       go_wp2_with (with_reducible refine zb 151 rfl (by kernel_rfl) 54 (.tmp 150) rfl ga 6 rfl FX _ (XAAT.out _ _ _ H21.out (by simp)).2.2.1 Tryz.underlying54 rfl XFI.out ?_)
       go_at_call 17;refine(XKF.out _ _ (fun p hp=>by simp[hp]) H21.out).mono ?_;rintro e1 w15 ⟨rfl,h15⟩;have H22:=za h15;clear h15 H21 XKF
       go_wp2_with (with_reducible refine zb 157 rfl (by kernel_rfl) 47 (.tmp 6) rfl gs 0 rfl D2 _ (XFST.out _ _ 47 _ _ H22.out (by simp)) Tryz.underlying47 rfl XI2.out ?_)
       go_at_call 18;refine(XKS2.out _ _ H22.out (by simp)).mono ?_;rintro e1 w16 ⟨rfl,h16⟩;have H23:=za (XFREL.out _ (h16.keep [(gc,.cells DC 47 (0,0)),(ga,.cells AX 62 (0,0))]));clear h16 H22;go_wp2_with fail
       go_roundw
       case rel=>exact H23.out
       case measure=>simp[intOf];omega
    ·have h:k=NE:=by omega
     subst h;have HZ:=za hst;clear hst hrt hwell near dok mo;go_wp2_with fail;go_ret;exact⟨rfl,FIN.out _ _ HZ.out⟩
end
end Go.Proofs.YtnjnooeldkideaaGreatDoor
