/- order: the law OrderDoes. order: what is asked, as data; what an entry with another reply does. -/
import Derived.Test.YtnjnooeldkideaaGreatDoorMOrGt
import Derived.Test.YtnjnooeldkideaaGreatDoorMOrAc
import Derived.Test.YtnjnooeldkideaaGreatDoorMRfN
import Derived.OwnWalk
import Derived.Deep.DeepCutAuto
import Derived.Test.YtnjnooeldkideaaGreatDoorMOrT
namespace Go.Proofs.YtnjnooeldkideaaGreatDoor
set_option maxRecDepth 100000
set_option maxHeartbeats 16000000
section
set_option linter.unusedVariables false
set_option linter.unusedSimpArgs false
open Go.RowKit Go.Lib Go.Deep
section
variable {W w:World}
theorem wr_range {v:World} {I:Nat→Option Obj} {X:List (Nat × Obj)} {g:Nat} (x:Wr W) (hv:St W v I X) (hm:(g,Obj.cells x.cells 42 (0,0))∈X):v.rangeAt g 0 x.t.cells.toList∧v.cell? ⟨g,75,none⟩=some (.slice x.nA x.nms.length x.nc)∧v.cell? ⟨g,76,none⟩=some (.int .i64 x.tries):=by
 have hs:=Tb.size x.tok
 have hc:∀j,x.cells[j]?=(x.t.cells.toList++[Value.slice x.nA x.nms.length x.nc,.int .i64 x.tries])[j]?:=fun j=>List.getElem?_toArray
 refine⟨fun j u hj=>?_,?_,?_⟩
 ·have hl:=(List.getElem?_eq_some_iff.1 hj).1
  rw[Nat.zero_add,hv.cell hm j,hc,List.getElem?_append_left hl,hj]
 ·rw[hv.cell hm 75,hc,List.getElem?_append_right (by simp[hs])];simp[hs]
 ·rw[hv.cell hm 76,hc,List.getElem?_append_right (by simp[hs])];simp[hs]
theorem Arg.entries {H:Type} {enc:TypeId × Value→H} {v:Value} (a:Arg enc Tryz.prog W 31 v):∃(A:Option Addr) (c:Nat) (l:List En),v=.slice A l.length c∧l.length≤maxLen∧Rd W (fun b=>W.heap[b]?) [] 126 A (zak l)∧∀e∈l,e.Pre:=by
 obtain⟨A,n,c,l,rfl,hs⟩:=a.slice (α:=En) (Q:=fun cs x=>cs=x.cells.toList∧x.Pre) (size:=126) Tryz.underlying31 (by kernel_rfl) (by decide) (fun cs h=>Cel.entry h);have hn:=hs.len;subst hn;exact⟨A,c,l,rfl,Nat.le_trans hs.cap hs.cap',hs.rd (fun x:En=>x.cells.toList) (fun cs x hq=>hq.1),hs.all (fun cs x hq=>hq.2)⟩
theorem lv_ne (b:Bool):(b != b)=false:=by simp
theorem Near.ok {m d:Md} (h:Near m d) (ok:d.Ok) (b0:0≤m.began) (b1:m.began≤1000000):0≤d.began∧d.began≤1000000:=by rw[h.began];exact⟨b0,b1⟩
theorem doD_ok {d:Md} {nms:List ByteArray} {e:En} (ok:d.Ok) (b0:0≤d.began) (b1:d.began≤1000000) (eok:e.Ok):(doD d nms e).1.Ok:=by
 unfold doD
 split
 ·split
  ·exact endD_ok ok eok
  ·exact ok
 ·split
  ·exact ok
  ·split
   ·exact ok
   ·exact(zbb ok b0 b1 eok.call eok.o0 eok.o1).1
theorem zbo {m:Md} {k:Nat} (h:m.Well (k+1)) (ns:List ByteArray) (e:En) (eok:e.Ok):((doM m ns e).getD m).Well k:=by
 cases hd:doM m ns e with
 | none=>exact h.less (by omega)
 | some m'=>exact doM_well h ns e eok m' hd
theorem zbm {m:Md} (h:zx m.known=true) (ns:List ByteArray) (e:En):zx ((doM m ns e).getD m).known=true:=by
 cases hd:doM m ns e with
 | none=>exact h
 | some m'=>exact(do_step hd).step.right h
theorem walk_orderDoes (W:World) (tabs:Tabs W) {H:Type} {enc:TypeId × Value→H} {v0 v1:Value} (a0:Arg enc Tryz.prog W 42 v0) (a1:Arg enc Tryz.prog W 31 v1) :
  Calls Tryz.prog 5 #[v0,v1] W fun e w'=>e=.returned (.bool true)∧Below W.heap.size W w':=by
 obtain⟨x,rfl⟩:=Arg.worldO a0;obtain⟨lA,lc,es,rfl,hel,erd,epre⟩:=Arg.entries a1;have tb:=Go.Proofs.YtnjnooeldkideaaGreatDoor.TB.start tabs;have h1:=(St.start W).alloc (.cells x.cells 42)
 have fin:∀(v:World) (L:List (Nat × Obj)),St W v (fun b=>W.heap[b]?) L→Below W.heap.size W v:=fun v L hv=>hv.below (Le.refl _)
 have FIN:=za fin;clear fin;obtain⟨g,hg⟩:∃g,W.heap.size=g:=⟨_,rfl⟩;rw[hg]at h1
 have kA:=fun(v:World) (L:List (Nat × Obj)) (hv:St W v (fun b=>W.heap[b]?) L)=>law_alive tb hv
 have kG:=fun(v:World) (L:List (Nat × Obj)) (hv:St W v (fun b=>W.heap[b]?) L)=>law_great (nc:=x.nc) (lc:=lc) x.tok x.nrd (by simp) erd (by simp) (by have:=x.nl;unfold maxLen at this;omega) (by unfold maxLen at hel;omega) (fun e he=>(epre e he).fit) hv
 have hat:=fun(v:World) (L:List (Nat × Obj)) (hv:St W v (fun b=>W.heap[b]?) L) (hx:(g,Obj.cells x.cells 42 (0,0))∈L)=>wr_range x hv hx
 obtain⟨R,hR⟩:∃R,zbf x.t x.nms es=R:=⟨_,rfl⟩;rw[hR]at kG
 have few:R=false→zx x.t=true∧x.nms.length≤10∧es.length≤60∧(∀s∈x.nms,s.size≤200)∧∀e∈es,e.call.name.size≤200:=fun hr=>by
  rw[hr]at hR;unfold zbf at hR;simp only[Bool.or_eq_false_iff,decide_eq_false_iff_not,Bool.not_eq_false']at hR;obtain⟨h1,h2,h3,h4,h5⟩:=hR;refine⟨h1,by omega,by omega,fun s hs=>?_,fun s hs=>?_⟩
  ·unfold bigN at h4
   have:=List.any_eq_false.1 h4 s hs
   simpa using this
  ·unfold bigE at h5
   have:=List.any_eq_false.1 h5 s hs
   simpa using this
 have kN:=fun(hr:R=false) (v:World) (L:List (Nat × Obj)) (hv:St W v (fun b=>W.heap[b]?) L)=>o_new (c:=x.nc) tb x.t x.tok x.tries x.x0 x.x1 x.nrd (by have:=(few hr).2.1;omega) (fun s hs=>by have:=(few hr).2.2.2.1 s hs;omega) (by simp) hv
 have kRN:=fun(v:World) (L:List (Nat × Obj)) (hv:St W v (fun b=>W.heap[b]?) L)=>r26_new (t:=x.t) x.tok x.nA x.nms.length x.nc x.tries hv
 have w0:(newM x.t x.tries).Well 100:=new_well x.tok x.tries (by decide);have d0ok:=w0.ok;have di:=zz (nv:=.slice x.nA x.nms.length x.nc) d0ok;have do_:=ye (m:=newM x.t x.tries) (nv:=.slice x.nA x.nms.length x.nc) rfl;have ds:=zy (nv:=.slice x.nA x.nms.length x.nc) d0ok;have ti:=z7 x.tok;unfold Tb.val at kG kN kRN;obtain⟨T,hT⟩:∃y,x.t.cells=y:=⟨_,rfl⟩;rw[hT]at kG kN kRN hat ti;obtain⟨WX,hWX⟩:∃y,x.cells=y:=⟨_,rfl⟩;rw[hWX]at h1 hat ⊢;obtain⟨D0,hD0⟩:∃y,stC (newM x.t x.tries) (.slice x.nA x.nms.length x.nc)=y:=⟨_,rfl⟩;rw[hD0]at kRN di do_ ds;have DF:Hid (0+D0.size≤Tryz.zeroCells47.size):=za (by rw[ds,zst];omega);have DM:Hid (zg Tryz.zeroCells47 0 D0.toList=D0):=za (by rw[zd _ _ (by rw[Array.length_toList,ds,zst]),Array.toArray_toList]);obtain⟨NE,hNE⟩:∃y,es.length=y:=⟨_,rfl⟩;rw[hNE]at kG few ⊢;obtain⟨NN,hNN⟩:∃y,x.nms.length=y:=⟨_,rfl⟩;have HD0:=za hD0;have HNL:=za hNN;rw[hNN]at hat kG kN kRN few;obtain⟨nn,hnn⟩:∃y,(filtN x.nms).length=y:=⟨_,rfl⟩;rw[hnn]at kN;have KA:=za kA;have KG:=za kG;have KN:=za kN;have KRN:=za kRN;have HAT:=za hat;have TI:=za ti;have FEW:=za few;have HNE:=za hNE;have HNN:=za hnn;have H1:=za h1;have W0:=za w0;have ERD:=za erd;have EPRE:=za epre;have TB0:=za tb;have DI:=za di;have DO:=za do_;have D0OK:=za d0ok;clear kA kG kN kRN hat ti few hNE hnn h1 w0 erd epre tb tabs hel a0 a1 hT hWX hNN hR di do_ ds d0ok hD0
 go_enter Tryz.func5,Tryz.ntmps5
 go_wp2_with fail;refine(KA.out _ _ H1.out).mono ?_;rintro e w2 ⟨rfl,h2⟩;obtain⟨r0,c75,c76⟩:=HAT.out _ _ h2 (List.mem_cons_self ..);have R0:=za r0;have H2:=za h2;clear r0 h2 H1
 go_wp2_with (with_reducible refine zb 14 rfl (by kernel_rfl) 29 (.tmp 13) rfl g 0 rfl T _ R0.out Tryz.underlying29 rfl TI.out ?_)
 refine(KG.out _ _ H2.out).mono ?_;rintro e w3 ⟨rfl,h3⟩;clear c75 c76 R0;obtain⟨r0,c75,c76⟩:=HAT.out _ _ h3 (List.mem_cons_self ..);have R0:=za r0;have H3:=za h3;clear r0 h3 H2
 cases R with
 | true=>
  go_wp2_with fail;go_ret;exact⟨rfl,FIN.out _ _ H3.out⟩
 | false=>
  obtain⟨hrt0,-,hne60,hnsz,hnames⟩:=FEW.out (by trivial);have hnl10:=(FEW.out (by trivial)).2.1;have HRT0:=za hrt0;have HNAMES:=za hnames;have HNSZ:=za hnsz;have HNL10:=za hnl10;clear hrt0 hnames hnsz hnl10;go_wp2_with fail;have HDW:=za H3.out.drew1;have HAL:=za (H3.out.alloc (.cells Tryz.zeroCells47 47)).drew1;have s1:=HAT.out _ _ HDW.out (by simp);have HUT:=za Tryz.underlying29;have TI2:Hid ((Tryz.prog.info? 29).map (·.size)=some T.toList.length):=za (by rw[Array.length_toList];exact TI.out)
  go_upto_region 5 with fail
  go_cut [5,6] (fun s5 s6 wx=>∃gm A c Ln gs,s5=.pointer (some ⟨gm,0,none⟩)∧s6=.pointer (some ⟨gs,0,none⟩)∧MOk (fun b=>W.heap[b]?) (newM x.t x.tries) (filtN x.nms) A nn c Ln∧St W wx (fun b=>W.heap[b]?) ((gm,.cells ((newM x.t x.tries).cells (.slice A nn c)) 88 (0,0))::(gs,.cells D0 47 (0,0))::(Ln++[(g,.cells WX 42 (0,0))])))
  case first=>
   refine wp_region_held_drew (S:=fun v=>v.rangeAt g 0 T.toList∧v.cell? ⟨g,75,none⟩=some (.slice x.nA NN x.nc)∧v.cell? ⟨g,76,none⟩=some (.int .i64 x.tries)) (by kernel_rfl) s1 (fun hHeld=>?_)
   refine tk op0 (v:=?_) (by kernel_rfl) ?_ (by assumption) ?_ fun _ _ _ h=>h
   rotate_left
   ·(refine ya rfl fun w hSw=>?_;go_simp;rfl)
   try simp only[Act.put,pu1,pu2,pu3]
   refine tk op1 (v:=?_) (by kernel_rfl) ?_ (by assumption) ?_ fun _ _ _ h=>h
   rotate_left
   ·(((refine yieldsIf_load_mid ?_ 29 (.tmp 19) ?_ g 0 ?_ T.toList _ ?_ HUT.out ?_ TI2.out)<;>first|rfl|exact fun w h=>h.1))
   try simp only[Act.put,pu1,pu2,pu3]
   refine tk op2 (v:=?_) (by kernel_rfl) ?_ (by assumption) ?_ fun _ _ _ h=>h
   rotate_left
   ·(refine ya rfl fun w hSw=>?_;go_simp;rfl)
   try simp only[Act.put,pu1,pu2,pu3]
   refine tk op3 (v:=?_) (by kernel_rfl) ?_ (by assumption) ?_ fun _ _ _ h=>h
   rotate_left
   ·((refine Or.inl ⟨by rfl,?_⟩;intro w hSw;obtain⟨hS1,hS2,hS3⟩:=hSw;go_simp;try with_reducible rfl))
   try simp only[Act.put,pu1,pu2,pu3]
   refine tk op4 (v:=?_) (by kernel_rfl) ?_ (by assumption) ?_ fun _ _ _ h=>h
   rotate_left
   ·(refine ya rfl fun w hSw=>?_;go_simp;rfl)
   try simp only[Act.put,pu1,pu2,pu3]
   refine tk op5 (v:=?_) (by kernel_rfl) ?_ (by assumption) ?_ fun _ _ _ h=>h
   rotate_left
   ·((refine Or.inl ⟨by rfl,?_⟩;intro w hSw;obtain⟨hS1,hS2,hS3⟩:=hSw;go_simp;try with_reducible rfl))
   try simp only[Act.put,pu1,pu2,pu3]
   refine tk op7 (v:=?_) (by kernel_rfl) ?_ (by assumption) ?_ fun _ _ _ h=>h
   rotate_left
   ·(refine ya rfl fun w hSw=>?_;go_simp;rfl)
   try simp only[Act.put,pu1,pu2,pu3]
   refine tk op8 (v:=?_) (by kernel_rfl) ?_ (by assumption) ?_ fun _ _ _ h=>h
   rotate_left
   ·(((refine yieldsIf_load_mid ?_ 29 (.tmp 26) ?_ g 0 ?_ T.toList _ ?_ HUT.out ?_ TI2.out)<;>first|rfl|exact fun w h=>h.1))
   try simp only[Act.put,pu1,pu2,pu3]
   refine tk op9 (v:=?_) (by kernel_rfl) ?_ (by assumption) ?_ fun _ _ _ h=>h
   rotate_left
   ·(refine ya rfl fun w hSw=>?_;go_simp;rfl)
   try simp only[Act.put,pu1,pu2,pu3]
   refine tk (oq op0) (v:=?_) (by kernel_rfl) ?_ (by assumption) ?_ fun _ _ _ h=>h
   rotate_left
   ·((refine Or.inl ⟨by rfl,?_⟩;intro w hSw;obtain⟨hS1,hS2,hS3⟩:=hSw;go_simp;try with_reducible rfl))
   try simp only[Act.put,pu1,pu2,pu3]
   refine tk (oq op1) (v:=?_) (by kernel_rfl) ?_ (by assumption) ?_ fun _ _ _ h=>h
   rotate_left
   ·(refine ya rfl fun w hSw=>?_;go_simp;rfl)
   try simp only[Act.put,pu1,pu2,pu3]
   refine tk (oq op2) (v:=?_) (by kernel_rfl) ?_ (by assumption) ?_ fun _ _ _ h=>h
   rotate_left
   ·((refine Or.inl ⟨by rfl,?_⟩;intro w hSw;obtain⟨hS1,hS2,hS3⟩:=hSw;go_simp;try with_reducible rfl))
   try simp only[Act.put,pu1,pu2,pu3]
   refine rds (i:=6) (rs:=[14]) (by kernel_rfl) ?_;refine .cons op6 (fun K hK=>?_) ?_
   ·go_simp
    ((go_at_call 14;(with_reducible refine(KN.out (by trivial) _ _ (HDW.out)).mono ?_);rintro e1 wx ⟨gm,A,c,Ln,rfl,mo,hx⟩;dsimp only))
    refine hK.out _ _ ?_ fun hHeld=>?_
    ·(try dsimp only)<;>((exact HAT.out _ _ hx (by simp)))
    clear hK K
    try simp only[Act.put,pu1,pu2,pu3]
    refine rds (i:=13) (rs:=[14]) (by kernel_rfl) ?_;refine .cons (oq op3) (fun K hK=>?_) ?_
    ·go_simp
     ((go_at_call 15;(with_reducible refine(KRN.out _ _ (hx)).mono ?_);rintro e1 wy ⟨rfl,hy⟩;dsimp only))
     refine hK.out _ _ ?_ fun hHeld=>?_
     ·(try dsimp only)<;>((exact HAT.out _ _ hy (by simp)))
     clear hK K
     try simp only[Act.put,pu1,pu2,pu3]
     refine rd1 (oq op4) (by kernel_rfl) fun K hK=>?_
     go_simp
     refine hK.out _ _ ?_ fun hHeld=>?_
     ·(try dsimp only)<;>((exact HAT.out _ _ (hy.alloc (.cells Tryz.zeroCells47 47)) (by simp)))
     clear hK K
     try simp only[Act.put,pu1,pu2,pu3]
     refine tk (oq op5) (v:=?_) (by kernel_rfl) ?_ (by assumption) ?_ fun _ _ _ h=>h
     rotate_left
     ·(refine ya rfl fun w hSw=>?_;go_simp;rfl)
     try simp only[Act.put,pu1,pu2,pu3]
     refine rd1 (oq op6) (by kernel_rfl) fun K hK=>?_
     ((refine zq rfl 47 (.tmp 6) (.tmp 32) rfl (g:=wy.heap.size) (off:=0) D0 rfl rfl (hy.alloc (.cells Tryz.zeroCells47 47)) DF.out DI.out DO.out ?_;intro wf hf;rw[DM.out]at hf;dsimp only))
     refine hK.out _ _ ?_ fun hHeld=>?_
     ·(try dsimp only)<;>((exact HAT.out _ _ hf (by simp)))
     clear hK K
     try simp only[Act.put,pu1,pu2,pu3]
     refine wpAnyH_done (by kernel_rfl) ?_ _;go_wp2_with fail;go_meet;exact⟨_,_,_,_,_,rfl,rfl,mo,St.perm (L':=(gm,.cells ((newM x.t x.tries).cells (.slice A nn c)) 88 (0,0))::(_,.cells D0 47 (0,0))::(Ln++[(g,.cells WX 42 (0,0))])) hf ze⟩
    refine .cons (oq op4) (fun K hK=>?_) ?_
    ·go_simp
     refine hK.out _ _ ?_ fun hHeld=>?_
     ·(try dsimp only)<;>((exact HAT.out _ _ (hx.alloc (.cells Tryz.zeroCells47 47)) (by simp)))
     clear hK K
     try simp only[Act.put,pu1,pu2,pu3]
     refine rd1 (oq op3) (by kernel_rfl) fun K hK=>?_
     go_simp
     ((go_at_call 15;(with_reducible refine(KRN.out _ _ (hx.alloc (.cells Tryz.zeroCells47 47))).mono ?_);rintro e1 wy ⟨rfl,hy⟩;dsimp only))
     refine hK.out _ _ ?_ fun hHeld=>?_
     ·(try dsimp only)<;>((exact HAT.out _ _ hy (by simp)))
     clear hK K
     try simp only[Act.put,pu1,pu2,pu3]
     refine tk (oq op5) (v:=?_) (by kernel_rfl) ?_ (by assumption) ?_ fun _ _ _ h=>h
     rotate_left
     ·(refine ya rfl fun w hSw=>?_;go_simp;rfl)
     try simp only[Act.put,pu1,pu2,pu3]
     refine rd1 (oq op6) (by kernel_rfl) fun K hK=>?_
     ((refine zq rfl 47 (.tmp 6) (.tmp 32) rfl (g:=wx.heap.size) (off:=0) D0 rfl rfl (St.perm (L':=(wx.heap.size,.cells Tryz.zeroCells47 47 (0,0))::((gm,.cells ((newM x.t x.tries).cells (.slice A nn c)) 88 (0,0))::(Ln++[(g,.cells WX 42 (0,0))]))) hy ze) DF.out DI.out DO.out ?_;intro wf hf;rw[DM.out]at hf;dsimp only))
     refine hK.out _ _ ?_ fun hHeld=>?_
     ·(try dsimp only)<;>((exact HAT.out _ _ hf (by simp)))
     clear hK K
     try simp only[Act.put,pu1,pu2,pu3]
     refine wpAnyH_done (by kernel_rfl) ?_ _;go_wp2_with fail;go_meet;exact⟨_,_,_,_,_,rfl,rfl,mo,St.perm (L':=(gm,.cells ((newM x.t x.tries).cells (.slice A nn c)) 88 (0,0))::(_,.cells D0 47 (0,0))::(Ln++[(g,.cells WX 42 (0,0))])) hf ze⟩
    exact .nil
   refine .cons (oq op4) (fun K hK=>?_) ?_
   ·go_simp
    refine hK.out _ _ ?_ fun hHeld=>?_
    ·(try dsimp only)<;>((exact HAT.out _ _ HAL.out (by simp)))
    clear hK K
    try simp only[Act.put,pu1,pu2,pu3]
    refine rd1 op6 (by kernel_rfl) fun K hK=>?_
    go_simp
    ((go_at_call 14;(with_reducible refine(KN.out (by trivial) _ _ (HAL.out)).mono ?_);rintro e1 wx ⟨gm,A,c,Ln,rfl,mo,hx⟩;dsimp only))
    refine hK.out _ _ ?_ fun hHeld=>?_
    ·(try dsimp only)<;>((exact HAT.out _ _ hx (by simp)))
    clear hK K
    try simp only[Act.put,pu1,pu2,pu3]
    refine rd1 (oq op3) (by kernel_rfl) fun K hK=>?_
    go_simp
    ((go_at_call 15;(with_reducible refine(KRN.out _ _ (hx)).mono ?_);rintro e1 wy ⟨rfl,hy⟩;dsimp only))
    refine hK.out _ _ ?_ fun hHeld=>?_
    ·(try dsimp only)<;>((exact HAT.out _ _ hy (by simp)))
    clear hK K
    try simp only[Act.put,pu1,pu2,pu3]
    refine tk (oq op5) (v:=?_) (by kernel_rfl) ?_ (by assumption) ?_ fun _ _ _ h=>h
    rotate_left
    ·(refine ya rfl fun w hSw=>?_;go_simp;rfl)
    try simp only[Act.put,pu1,pu2,pu3]
    refine rd1 (oq op6) (by kernel_rfl) fun K hK=>?_
    ((refine zq rfl 47 (.tmp 6) (.tmp 32) rfl (g:=w3.heap.size) (off:=0) D0 rfl rfl (St.perm (L':=(w3.heap.size,.cells Tryz.zeroCells47 47 (0,0))::((gm,.cells ((newM x.t x.tries).cells (.slice A nn c)) 88 (0,0))::(Ln++[(g,.cells WX 42 (0,0))]))) hy ze) DF.out DI.out DO.out ?_;intro wf hf;rw[DM.out]at hf;dsimp only))
    refine hK.out _ _ ?_ fun hHeld=>?_
    ·(try dsimp only)<;>((exact HAT.out _ _ hf (by simp)))
    clear hK K
    try simp only[Act.put,pu1,pu2,pu3]
    refine wpAnyH_done (by kernel_rfl) ?_ _;go_wp2_with fail;go_meet;exact⟨_,_,_,_,_,rfl,rfl,mo,St.perm (L':=(gm,.cells ((newM x.t x.tries).cells (.slice A nn c)) 88 (0,0))::(_,.cells D0 47 (0,0))::(Ln++[(g,.cells WX 42 (0,0))])) hf ze⟩
   exact .nil
  case rest=>
   obtain⟨gm,A,c,Ln,gs,rfl,rfl,mo,h4⟩:=hcut;have H4:=za h4;have MO:=za mo;clear h4 mo c75 c76 R0 H3 HDW HAL s1;obtain⟨ns,hns⟩:∃y,filtN x.nms=y:=⟨_,rfl⟩;rw[hns]at MO HNN;have HNS:=za hns;clear hns;go_wp2_with fail
   go_loopw [35] (fun v35 wr=>∃(k:Nat) (m d:Md),v35=.int .i64 (k:Int)∧k≤NE∧zx m.known=true∧m.Well (100-k)∧Near m d∧d.Ok∧MOk (fun b=>W.heap[b]?) m ns A nn c Ln∧St W wr (fun b=>W.heap[b]?) ((gm,.cells (m.cells (.slice A nn c)) 88 (0,0))::(gs,.cells (stC d (.slice x.nA x.nms.length x.nc)) 47 (0,0))::(Ln++[(g,.cells WX 42 (0,0))]))) (fun v35 _=>NE-(intOf v35).toNat)
   case atStart=>exact⟨0,newM x.t x.tries,newM x.t x.tries,rfl,by omega,HRT0.out,W0.out,Near.refl _,D0OK.out,MO.out,by rw[HD0.out];exact H4.out⟩
   case round=>
    obtain⟨k,m,d,rfl,hk,hrt,hwell,near,dok,mo,hst⟩:=hrel;clear H4 MO
    by_cases hkl:k < NE
    ·obtain⟨e,he⟩:∃o,es[k]?=some o:=⟨_,List.getElem?_eq_getElem (by rw[HNE.out];exact hkl)⟩
     obtain⟨b,off,hA,hr⟩:=ERD.out.en wr _ hst (by simp) k e he;have hem:=List.mem_of_getElem? he;have enm:=HNAMES.out e hem;have eok:=(EPRE.out e hem).ok (by omega);have xi:=qk eok;have xsz:=En.size eok;have xo:=En.one e;obtain⟨db0,db1⟩:=near.ok dok mo.b0 mo.b1;have h2:=hst.alloc (.cells Tryz.zeroCells54 54)
     have hdo:=fun(v:World) (X:List (Nat × Obj)) (hL:∀p∈Ln,p∈X) (hv:St W v (fun b=>W.heap[b]?) ((gm,.cells (m.cells (.slice A nn c)) 88 (0,0))::X))=>o_do TB0.out mo e eok (by omega) hL hv
     have hrd:=fun(v:World) (X:List (Nat × Obj)) (hv:St W v (fun b=>W.heap[b]?) X)=>r26_do (c:=x.nc) (ns:=x.nms) TB0.out e eok (by omega) dok db0 db1 x.nrd (by rw[HNL.out];have:=HNL10.out;omega) (fun s hs=>by have:=HNSZ.out s hs;omega) (by simp) hv
     obtain⟨dn1,dn2⟩:=do_near (ns:=x.nms) (e:=e) hrt near;rw[HNS.out]at dn1 dn2;have ok1:=doD_ok (nms:=x.nms) dok db0 db1 eok;have well1:=zbo (k:=100-(k+1)) (by rw[show 100-(k+1)+1=100-k by omega];exact hwell) ns e eok;have right1:=zbm hrt ns e;have mo1:MOk (fun b=>W.heap[b]?) ((doM m ns e).getD m) ns A nn c Ln:=⟨well1.ok,well1.b0,by have:=well1.b1;omega,mo.names,mo.few⟩;obtain⟨⟨d',ob⟩,hDD⟩:∃z,doD d x.nms e=z:=⟨_,rfl⟩;rw[hDD]at dn1 dn2 ok1 hrd;unfold EPost at hrd;dsimp only at dn1 dn2 ok1 hrd;rw[←dn1]at hdo;obtain⟨m',hm'⟩:∃z,(doM m ns e).getD m=z:=⟨_,rfl⟩;rw[hm']at hdo dn2 well1 right1 mo1
     have hsm:=fun(v:World) (X:List (Nat × Obj)) (hv:St W v (fun b=>W.heap[b]?) X) (hx:(gm,.cells (m'.cells (.slice A nn c)) 88 (0,0))∈X)=>o_same (nd:=.slice x.nA x.nms.length x.nc) mo1.ok ok1 dn2 rfl hv hx
     have fe:=fun(ge:Nat) (v:World) (X:List (Nat × Obj)) (hv:St W v (fun b=>W.heap[b]?) X) (hm:(ge,Obj.cells e.cells 54 (0,0))∈X)=>(hv.whole hm:v.rangeAt ge 0 e.cells.toList)
     have fd:=fun(gn:Nat) (v:World) (X:List (Nat × Obj)) (hv:St W v (fun b=>W.heap[b]?) X) (hm:(gn,Obj.cells (stC d (.slice x.nA x.nms.length x.nc)) 47 (0,0))∈X)=>(hv.whole hm:v.rangeAt gn 0 (stC d (.slice x.nA x.nms.length x.nc)).toList)
     have fd':=fun(gn:Nat) (v:World) (X:List (Nat × Obj)) (hv:St W v (fun b=>W.heap[b]?) X) (hm:(gn,Obj.cells (stC d' (.slice x.nA x.nms.length x.nc)) 47 (0,0))∈X)=>(hv.whole hm:v.rangeAt gn 0 (stC d' (.slice x.nA x.nms.length x.nc)).toList)
     have i1:=zz (nv:=.slice x.nA x.nms.length x.nc) dok;have i2:=zz (nv:=.slice x.nA x.nms.length x.nc) ok1;have o2:=ye (m:=d') (nv:=.slice x.nA x.nms.length x.nc) rfl;have z1:=zy (nv:=.slice x.nA x.nms.length x.nc) dok;have z2:=zy (nv:=.slice x.nA x.nms.length x.nc) ok1
     have frel:∀v:World,St W v (fun b=>W.heap[b]?) ((gm,.cells (m'.cells (.slice A nn c)) 88 (0,0))::(gs,.cells (stC d' (.slice x.nA x.nms.length x.nc)) 47 (0,0))::(Ln++[(g,.cells WX 42 (0,0))]))→∃(k':Nat) (m d:Md),(Value.int .i64 ((k:Int)+1))=.int .i64 (k':Int)∧k'≤NE∧zx m.known=true∧m.Well (100-k')∧Near m d∧d.Ok∧MOk (fun b=>W.heap[b]?) m ns A nn c Ln∧St W v (fun b=>W.heap[b]?) ((gm,.cells (m.cells (.slice A nn c)) 88 (0,0))::(gs,.cells (stC d (.slice x.nA x.nms.length x.nc)) 47 (0,0))::(Ln++[(g,.cells WX 42 (0,0))])):=fun v hv=>⟨k+1,m',d',by go_num,by omega,right1,well1,dn2,ok1,mo1,hv⟩
     unfold En.val at hdo hrd;obtain⟨EX,hEX⟩:∃X,e.cells=X:=⟨_,rfl⟩;rw[hEX]at hr xi xsz xo hdo hrd fe;obtain⟨D1,hD1⟩:∃X,stC d (.slice x.nA x.nms.length x.nc)=X:=⟨_,rfl⟩;obtain⟨D2,hD2⟩:∃X,stC d' (.slice x.nA x.nms.length x.nc)=X:=⟨_,rfl⟩;rw[hD1]at hst h2 hrd fd i1 z1;rw[hD2]at hrd fd' i2 o2 z2 hsm frel;obtain⟨M1,hM1⟩:∃X,m'.cells (.slice A nn c)=X:=⟨_,rfl⟩;rw[hM1]at hdo hsm frel
     have xfit:0+EX.size≤Tryz.zeroCells54.size:=by rw[xsz,zent];omega
     have xmany:zg Tryz.zeroCells54 0 EX.toList=EX:=by rw[zd _ _ (by rw[Array.length_toList,xsz,zent]),Array.toArray_toList]
     have nfit:0+D2.size≤Tryz.zeroCells47.size:=by rw[z2,zst];omega
     have nmany:zg Tryz.zeroCells47 0 D2.toList=D2:=by rw[zd _ _ (by rw[Array.length_toList,z2,zst]),Array.toArray_toList]
     have sfit:0+D2.size≤D1.size:=by rw[z2,z1];omega
     have smany:zg D1 0 D2.toList=D2:=by rw[zd _ _ (by rw[Array.length_toList,z2,z1]),Array.toArray_toList]
     obtain⟨M0,hM0⟩:∃X,m.cells (.slice A nn c)=X:=⟨_,rfl⟩;rw[hM0]at hst h2 hdo;have bl:=lv_ne ob;have HR2:=za hr;have XI:=za xi;have XO:=za xo;have XF:=za xfit;have XM:=za xmany;have H2:=za h2;have KD:=za hdo;have KRD:=za hrd;have KS:=za hsm;have FE:=za fe;have FD:=za fd;have FD2:=za fd';have I1:=za i1;have I2:=za i2;have O2:=za o2;have NF:=za nfit;have NM:=za nmany;have SF:=za sfit;have SM:=za smany;have FREL:=za frel;have HAA:=za hA;clear hst hr xi xo xsz xfit xmany h2 hdo hrd hsm fe fd fd' i1 i2 o2 nfit nmany sfit smany frel z1 z2 hA hem he hEX hD1 hD2 hM1 hM0 enm eok dok near hrt hwell mo mo1 right1 well1 ok1 dn1 dn2 hDD hm' db0 db1;rw[HAA.out]
     go_wp2_with (first|(with_reducible refine zb 38 rfl (by kernel_rfl) 54 (.tmp 37) rfl b (off+k*126) rfl EX _ HR2.out Tryz.underlying54 rfl XI.out ?_)|(with_reducible refine zc rfl 54 (.tmp 8) (.tmp 38) rfl (g:=wr.heap.size) (off:=0) EX rfl rfl H2.out XF.out XI.out XO.out ?_;intro w3 h3;refine Hid.out ?_))
     refine za ?_;rw[XM.out]at h3;obtain⟨ge,hge⟩:∃y,wr.heap.size=y:=⟨_,rfl⟩;rw[hge]at h3 ⊢;have H3:=za h3;clear h3 H2 HR2 hge
     go_wp2_with (first|(with_reducible refine zb 40 rfl (by kernel_rfl) 47 (.tmp 6) rfl gs 0 rfl D1 _ (FD.out _ _ _ H3.out (by simp)) Tryz.underlying47 rfl I1.out ?_)|(with_reducible refine zb 41 rfl (by kernel_rfl) 54 (.tmp 8) rfl ge 0 rfl EX _ (FE.out _ _ _ H3.out (by simp)) Tryz.underlying54 rfl XI.out ?_))
     go_at_call 16;refine(KRD.out _ _ H3.out).mono ?_;rintro e1 w4 ⟨rfl,h4⟩;have h5:=h4.alloc (.cells Tryz.zeroCells47 47);have H5:=za h5;clear h4 h5 H3
     go_wp2_with (with_reducible refine zc rfl 47 (.tmp 9) (.tmp 43) rfl (g:=w4.heap.size) (off:=0) D2 rfl rfl H5.out NF.out I2.out O2.out ?_;intro w5 h5;refine Hid.out ?_)
     refine za ?_;rw[NM.out]at h5;obtain⟨gn,hgn⟩:∃y,w4.heap.size=y:=⟨_,rfl⟩;rw[hgn]at h5 ⊢;have h6:=h5.perm (L':=(gm,.cells M0 88 (0,0))::((gn,.cells D2 47 (0,0))::(ge,.cells EX 54 (0,0))::(gs,.cells D1 47 (0,0))::(Ln++[(g,.cells WX 42 (0,0))]))) ze;have H6:=za h6;clear h5 h6 H5 hgn
     go_wp2_with (with_reducible refine zb 46 rfl (by kernel_rfl) 54 (.tmp 8) rfl ge 0 rfl EX _ (FE.out _ _ _ H6.out (by simp)) Tryz.underlying54 rfl XI.out ?_)
     go_at_call 17;refine(KD.out _ _ (fun p hp=>by simp[hp]) H6.out).mono ?_;rintro e1 w6 ⟨rfl,h6⟩;have h7:=h6.perm (L':=(gs,.cells D1 47 (0,0))::(gn,.cells D2 47 (0,0))::(ge,.cells EX 54 (0,0))::(gm,.cells M1 88 (0,0))::(Ln++[(g,.cells WX 42 (0,0))])) ze;have H7:=za h7;clear h6 h7 H6
     go_wp2_with (first|(with_reducible refine zb 50 rfl (by kernel_rfl) 47 (.tmp 9) rfl gn 0 rfl D2 _ (FD2.out _ _ _ H7.out (by simp)) Tryz.underlying47 rfl I2.out ?_)|(with_reducible refine zc rfl 47 (.tmp 6) (.tmp 50) rfl (g:=gs) (off:=0) D2 rfl rfl H7.out SF.out I2.out O2.out ?_;intro w8 h8;refine Hid.out ?_))
     refine za ?_;rw[SM.out]at h8;have H8:=za h8;clear h8 H7
     go_wp2_with (with_reducible refine zb 52 rfl (by kernel_rfl) 47 (.tmp 6) rfl gs 0 rfl D2 _ (FD2.out _ _ _ H8.out (by simp)) Tryz.underlying47 rfl I2.out ?_)
     go_at_call 18;refine(KS.out _ _ H8.out (by simp)).mono ?_;rintro e1 w9 ⟨rfl,h9⟩;have h10:=h9.perm (L':=(gm,.cells M1 88 (0,0))::(gs,.cells D2 47 (0,0))::([(gn,.cells D2 47 (0,0)),(ge,.cells EX 54 (0,0))]++(Ln++[(g,.cells WX 42 (0,0))]))) ze;have H9:=za (FREL.out _ (h10.keep [(gn,.cells D2 47 (0,0)),(ge,.cells EX 54 (0,0))]));clear h9 h10 H8;go_wp2_with fail
     go_roundw
     case rel=>exact H9.out
     case measure=>simp[intOf];omega
    ·have h:k=NE:=by omega
     subst h;have HZ:=za hst;clear hst hrt hwell near dok mo;go_wp2_with fail;go_ret;exact⟨rfl,FIN.out _ _ HZ.out⟩
end
end

section
set_option linter.unusedVariables false
set_option linter.unusedSimpArgs false
open Go.RowKit Go.Lib Go.Deep
structure Ak where
 call:Cl
 store:Int
 fin:En
instance:Inhabited Ak:=⟨⟨⟨0,0,0,0,⟨#[]⟩⟩,0,default⟩⟩
def Ak.cells (a:Ak):Array Value:=(a.call.cells.toList++([Value.int .i64 a.store]++a.fin.cells.toList)).toArray
structure Ak.Pre (a:Ak):Prop where
 call:a.call.name.size≤1000000000→a.call.Ok
 s0:-9223372036854775808≤a.store
 s1:a.store≤9223372036854775807
 fin:a.fin.Pre
 cn:a.call.name.size≤9223372036854775807
 fn:a.fin.call.name.size≤9223372036854775807
def akRows (l:List Ak):List (List Value):=l.map fun a=>a.cells.toList
section
variable {a:Ak} {v:World} {J:Nat→Option Obj} {X:List (Nat × Obj)} {g:Nat} {T:TypeId} {fr:Nat × Nat} {W:World}
theorem Rd.ak {Lx:List (Nat × Obj)} {A:Option Addr} {es:List Ak} (h:Rd W J Lx 132 A (akRows es)) (v:World) (X:List (Nat × Obj)) (hv:St W v J X) (hL:∀p∈Lx,p∈X) (k:Nat) (s:Ak) (hk:es[k]?=some s):∃b off,A=some ⟨b,off,none⟩∧v.rangeAt b (off+k*132) s.cells.toList:=
 h.at_ v X hv hL k _ (by unfold akRows;rw[List.getElem?_map,hk];rfl)
theorem Ak.g0 (a:Ak) (j:Nat) (hj:j < 5):a.cells[j]?=a.call.cells[j]?:=by
 have h3:=Cl.size a.call;unfold Ak.cells;rw[List.getElem?_toArray,List.getElem?_append_left (by rw[Array.length_toList,h3];omega)]
 simp
theorem Ak.g5 (a:Ak):a.cells[5]?=some (.int .i64 a.store):=by
 have h3:=Cl.size a.call;unfold Ak.cells;rw[List.getElem?_toArray,List.getElem?_append_right (by rw[Array.length_toList,h3];omega),Array.length_toList,h3]
 rfl
theorem Ak.g6 (a:Ak) (j:Nat):a.cells[6+j]?=a.fin.cells[j]?:=by
 have h3:=Cl.size a.call;unfold Ak.cells;rw[List.getElem?_toArray,List.getElem?_append_right (by rw[Array.length_toList,h3];omega),Array.length_toList,h3,show 6+j-5=1+j by omega,List.getElem?_append_right (by simp)]
 simp
theorem Ak.size (h:a.fin.cells.size=126):a.cells.size=132:=by
 have h3:=Cl.size a.call;unfold Ak.cells
 simp[h3,h]
theorem Ak.one (a:Ak):a.cells.all (·.oneCell')=true:=by
 have q:=Cl.one a.call;have r:=En.one a.fin;rw[←Array.all_toList]at q r;unfold Ak.cells;rw[←Array.all_toList,List.toList_toArray,List.all_append,q,Bool.true_and,List.all_append,r]
 rfl
structure AkAt (v:World) (g:Nat) (a:Ak):Prop where
 call:v.rangeAt g 0 a.call.cells.toList
 store:v.cell? ⟨g,5,none⟩=some (.int .i64 a.store)
 fin:v.rangeAt g 6 a.fin.cells.toList
 name:v.cell? ⟨g,4,none⟩=some (.string a.call.name)
 fname:v.cell? ⟨g,12,none⟩=some (.string a.fin.call.name)
theorem St.ak (hv:St W v J X) (hm:(g,Obj.cells a.cells T fr)∈X):AkAt v g a:=by
 refine⟨fun j u hj=>?_,(hv.cell hm 5).trans a.g5,fun j u hj=>?_,(hv.cell hm 4).trans ((a.g0 4 (by omega)).trans a.call.at4),?_⟩
 ·have hl:j < 5:=by have:=(List.getElem?_eq_some_iff.1 hj).1;rw[Array.length_toList,Cl.size]at this;exact this
  rw[Nat.zero_add,hv.cell hm j,a.g0 j hl];simpa using hj
 ·rw[hv.cell hm (6+j),a.g6 j];simpa using hj
 ·rw[hv.cell hm 12,show(12:Nat)=6+6 from rfl,a.g6 6,show(6:Nat)=2+4 from rfl,En.gc a.fin 4 (by omega)]
  exact a.fin.call.at4
end
section
variable {H:Type} {enc:TypeId × Value→H} {W:World}
theorem Cel.ask {cs:List Value} (h:Cel enc Tryz.prog W 62 cs):∃a:Ak,cs=a.cells.toList∧a.Pre:=by
 obtain⟨hl,hf⟩:=h.struct_ Tryz.underlying62
 have hl:cs.length=132:=by rw[hl];kernel_rfl
 have f0:Cel enc Tryz.prog W 50 ((cs.drop 0).take (Tryz.prog.cellsOf 50)):=hf 0 _ rfl;rw[show Tryz.prog.cellsOf 50=5 by kernel_rfl]at f0;have f1:Cel enc Tryz.prog W 37 ((cs.drop 5).take (Tryz.prog.cellsOf 37)):=hf 1 _ rfl;rw[show Tryz.prog.cellsOf 37=1 by kernel_rfl]at f1;have f2:Cel enc Tryz.prog W 54 ((cs.drop 6).take (Tryz.prog.cellsOf 54)):=hf 2 _ rfl;rw[show Tryz.prog.cellsOf 54=126 by kernel_rfl]at f2;obtain⟨c,e0,cok,cn⟩:=Cel.call f0;obtain⟨n1,e1,w1⟩:=f1.int Tryz.underlying37;obtain⟨a1,b1⟩:=jc w1;obtain⟨e,e2,ep⟩:=Cel.entry f2;have c5:(cs.drop 6).take 126=cs.drop 6:=List.take_of_length_le (by rw[List.length_drop];omega);rw[c5]at e2
 have fn:e.call.name.size≤9223372036854775807:=by
  obtain⟨hl2,hf2⟩:=f2.struct_ Tryz.underlying54;have f3:Cel enc Tryz.prog W 50 ((((cs.drop 6).take 126).drop 2).take (Tryz.prog.cellsOf 50)):=hf2 2 _ rfl;rw[show Tryz.prog.cellsOf 50=5 by kernel_rfl]at f3;obtain⟨c',e3,-,cn'⟩:=Cel.call f3;rw[c5,e2]at e3;have h4:=congrArg (fun l=>l[4]?) e3;rw[List.getElem?_take_of_lt (by omega),List.getElem?_drop,Array.getElem?_toList,En.gc e 4 (by omega),Array.getElem?_toList,e.call.at4,c'.at4]at h4
  injection h4 with h4
  injection h4 with h4
  rw[h4];exact cn'
 refine⟨⟨c,n1,e⟩,?_,⟨cok,a1,b1,ep,cn,fn⟩⟩
 have cut:∀k n,cs.drop k=(cs.drop k).take n++cs.drop (k+n):=fun k n=>by
  have h:=(List.take_append_drop n (cs.drop k)).symm
  rwa [List.drop_drop]at h
 rw[show cs=cs.drop 0 from rfl,cut 0 5,e0,cut 5 1,e1,e2]
 simp[Ak.cells]
theorem Arg.asks {v:Value} (a:Arg enc Tryz.prog W 60 v):∃(A:Option Addr) (c:Nat) (l:List Ak),v=.slice A l.length c∧l.length≤maxLen∧Rd W (fun b=>W.heap[b]?) [] 132 A (akRows l)∧∀e∈l,e.Pre:=by
 obtain⟨A,n,c,l,rfl,hs⟩:=a.slice (α:=Ak) (Q:=fun cs x=>cs=x.cells.toList∧x.Pre) (size:=132) Tryz.underlying60 (by kernel_rfl) (by decide) (fun cs h=>Cel.ask h);have hn:=hs.len;subst hn;exact⟨A,c,l,rfl,Nat.le_trans hs.cap hs.cap',hs.rd (fun x:Ak=>x.cells.toList) (fun cs x hq=>hq.1),hs.all (fun cs x hq=>hq.2)⟩
end
theorem wrap_next (j:Int) (h0:-9223372036854775808≤j) (h1:j≤9223372036854775807):wrap64 (j+1)≠j∧-9223372036854775808≤wrap64 (j+1)∧wrap64 (j+1)≤9223372036854775807:=by
 unfold wrap64
 omega
def mkE (k:Int) (q:Cl) (r:Ry) (x:Int):En:=⟨1,k,q,r,x,0,0,zS⟩
def zbp (k:Int) (q:Cl) (r:Ry) (x:Int):En:=⟨1,k,q,{ r with job:=wrap64 (r.job+1) },x,0,0,zS⟩
theorem mkE_ok {k:Int} {q:Cl} {r:Ry} {x:Int} (k0:-9223372036854775808≤k) (k1:k≤9223372036854775807) (qok:q.Ok) (rok:r.Ok) (x0:-9223372036854775808≤x) (x1:x≤9223372036854775807):(mkE k q r x).Ok:=
 ⟨by show(-9223372036854775808:Int)≤1;decide,by show(1:Int)≤9223372036854775807;decide,k0,k1,qok,rok,x0,x1,by show(-9223372036854775808:Int)≤0;decide,by show(0:Int)≤9223372036854775807;decide,by show(-9223372036854775808:Int)≤0;decide,by show(0:Int)≤9223372036854775807;decide,zS_ok⟩
theorem otherE_ok {k:Int} {q:Cl} {r:Ry} {x:Int} (k0:-9223372036854775808≤k) (k1:k≤9223372036854775807) (qok:q.Ok) (rok:r.Ok) (x0:-9223372036854775808≤x) (x1:x≤9223372036854775807):(zbp k q r x).Ok:=by
 have w:=wrap_next r.job rok.j0 rok.j1;exact mkE_ok (r:={ r with job:=wrap64 (r.job+1) }) k0 k1 qok ⟨rok.e0,rok.e1,w.2.1,w.2.2,rok.t0,rok.t1,rok.l0,rok.l1,rok.f0,rok.f1,rok.t⟩ x0 x1
theorem mkE_bare (k:Int) (q:Cl) (r:Ry) (x:Int):bareE (mkE k q r x)=mkE k q r x:=rfl
theorem otherE_set {k:Int} {q:Cl} {r:Ry} {x:Int} (rok:r.Ok):zg (mkE k q r x).cells 8 [.int .i64 (wrap64 (r.job+1))]=(zbp k q r x).cells:=by
 have e:=yb ([Value.int .i64 1,.int .i64 k]++(q.cells.toList++[Value.int .i64 r.err])) [.int .i64 r.job] [.int .i64 (wrap64 (r.job+1))] ([Value.int .i64 r.state,.int .i64 r.slot,.int .i64 r.fault]++r.t.cells.toList++([Value.int .i64 x,.int .i64 0,.int .i64 0]++zS.cells.toList)) rfl
 have hl:([Value.int .i64 1,.int .i64 k]++(q.cells.toList++[Value.int .i64 r.err])).length=8:=by
  simp[Cl.size]
 rw[hl]at e;unfold mkE zbp En.cells Ry.cells;simp only[List.append_assoc,List.cons_append,List.nil_append]at e ⊢;exact e
theorem other_none {m:Md} {ns:List ByteArray} {k:Int} {q:Cl} {x:Int} (rok:(zbl m ns q x).1.Ok):doM m ns (zbp k q (zbl m ns q x).1 x)=none:=by
 have w:=(wrap_next _ rok.j0 rok.j1).1;unfold doM;rw[if_pos (show(zbp k q (zbl m ns q x).1 x).kind=1 from rfl)];unfold calledM
 split
 ·rename_i hb
  have hq:y3 q=true:=hb.2
  split
  ·rename_i hc
   have he:=(zao _ _).1 hc.2;have hj:=congrArg Ry.job he
   have hr:(zbl m ns q x).1=(storedA m (askA m ns q) x).1.rep:=by
    unfold zbl;rw[if_pos hq]
   have hj:(storedA m (askA m ns q) x).1.rep.job=wrap64 ((zbl m ns q x).1.job+1):=hj;rw[←hr]at hj;exact absurd hj.symm w
  ·rfl
 ·rfl
theorem made_do {d:Md} {nms:List ByteArray} {k:Int} {q:Cl} {r:Ry} {x:Int} (h:(callD d nms q x).2.2=true→(callD d nms q x).2.1=r):(doD d nms (mkE k q r x)).2=(callD d nms q x).2.2∧(doD d nms (mkE k q r x)).1=if (callD d nms q x).2.2=true then (callD d nms q x).1 else d:=by
 have hz:eqS zS zS=true:=(za4 _ _).2 rfl
 have n2:¬(mkE k q r x).kind=2:=by show ¬(1:Int)=2;decide
 have n1:¬((mkE k q r x).kind != 1||((mkE k q r x).state != 0||((mkE k q r x).fault != 0||!eqS (mkE k q r x).slot zS)))=true:=by
  show ¬((1:Int) != 1||((0:Int) != 0||((0:Int) != 0||!eqS zS zS)))=true
  rw[hz];decide
 have e:doD d nms (mkE k q r x)=if (!(callD d nms q x).2.2||!eqRy (callD d nms q x).2.1 r)=true then (d,false) else ((callD d nms q x).1,true):=by
  unfold doD;rw[if_neg n2,if_neg n1]
  rfl
 rw[e]
 by_cases ho:(callD d nms q x).2.2=true
 ·have hr:=(zao _ _).2 (h ho)
  have c:¬(!(callD d nms q x).2.2||!eqRy (callD d nms q x).2.1 r)=true:=by rw[ho,hr];decide
  rw[if_neg c,if_pos ho];exact⟨ho.symm,rfl⟩
 ·have c:(!(callD d nms q x).2.2||!eqRy (callD d nms q x).2.1 r)=true:=by simp[ho]
  rw[if_pos c,if_neg ho];exact⟨(by simpa using ho:(callD d nms q x).2.2=false).symm,rfl⟩
end
end Go.Proofs.YtnjnooeldkideaaGreatDoor
