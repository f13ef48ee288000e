/- order: Check and Find at the law's own example. order: the law's own example: it is answered. -/
import Derived.Test.YtnjnooeldkideaaGreatDoorMOrOv
import Derived.OwnWalk
import Derived.Deep.DeepCutAuto
import Derived.Test.YtnjnooeldkideaaGreatDoorMOrT
import Derived.Test.YtnjnooeldkideaaGreatDoorMOrTa
namespace Go.Proofs.YtnjnooeldkideaaGreatDoor
set_option maxRecDepth 100000
set_option maxHeartbeats 16000000
section
set_option linter.unusedVariables false
set_option linter.unusedSimpArgs false
open Go.RowKit Go.Lib Go.Deep
section
variable {W w:World} {J:Nat→Option Obj} {t:Tb} {F:List (Nat × Obj)}
theorem c_found {A:Option Addr} {c:Nat} {Lx:List (Nat × Obj)} {ss:List Sp} {p:Value} (hrd:Rd W J Lx 88 A (uo ss)) (sok:∀s∈ss,s.Ok) (hn:ss.length≤1000) (hL:∀p∈Lx,p∈F) (ho:anyUp ss=false) (h:St W w J F) :
  Calls Tryz.prog 30 #[.agg #[.slice A ss.length c,.slice none 0 0],p] w fun e w'=>e=.returned (.bool true)∧St W w' J F:=by
 have h1:=h.alloc (.cells #[.slice A ss.length c,.slice none 0 0] 80);have ko:=o_over (c:=c) (B:=none) (k:=0) (d:=0) (es:=[]) hrd sok hn rfl (fun p hp=>List.mem_cons_of_mem _ (hL p hp)) h1;rw[show overB ss []=true by unfold overB;rw[ho];rfl]at ko
 have r:(w.alloc (.cells #[.slice A ss.length c,.slice none 0 0] 80)).rangeAt w.heap.size 0 (#[.slice A ss.length c,.slice none 0 0]:Array Value).toList:=fun j u hj=>by rw[Nat.zero_add,h1.cell (g:=w.heap.size) (cs:=#[.slice A ss.length c,.slice none 0 0]) (t:=80) (fr:=(0,0)) (by simp) j];simpa using hj
 obtain⟨N,hN⟩:∃y,ss.length=y:=⟨_,rfl⟩;rw[hN]at ko r ⊢;have KO:=za ko;have R:=za r;clear ko r h1 h hrd sok hn hL ho hN
 go_enter Tryz.func30,Tryz.ntmps30
 go_wp2_with (with_reducible refine zb 10 rfl (by kernel_rfl) 80 (.tmp 2) rfl w.heap.size 0 rfl #[.slice A N c,.slice none 0 0] _ R.out Tryz.underlying80 rfl (by kernel_rfl) ?_)
 refine KO.out.mono ?_;rintro e w2 ⟨rfl,h2⟩;have H2:=za h2;clear h2 KO R;go_wp2_with fail;go_ret;exact⟨rfl,H2.out.weaken (A:=[_])⟩
theorem c_find {b:Nat} (tb:Go.Proofs.YtnjnooeldkideaaGreatDoor.TB W J) (h:St W w J ((b,.cells alS.cells 71 (0,0))::F)) :
  Calls Tryz.prog 11 #[.agg (y7 gTb (.slice none 0 0) 0 (.slice none 0 0) (.slice (some ⟨b,0,none⟩) 1 1))] w fun e w'=>e=.returned (.int .i64 0)∧St W w' J ((b,.cells alS.cells 71 (0,0))::F):=by
 have h1:=h.alloc (.cells (y7 gTb (.slice none 0 0) 0 (.slice none 0 0) (.slice (some ⟨b,0,none⟩) 1 1)) 34);obtain⟨g,hg⟩:∃g,w.heap.size=g:=⟨_,rfl⟩;rw[hg]at h1
 have hat:=fun(v:World) (X:List (Nat × Obj)) (hv:St W v J X) (hx:(g,Obj.cells (y7 gTb (.slice none 0 0) 0 (.slice none 0 0) (.slice (some ⟨b,0,none⟩) 1 1)) 34 (0,0))∈X)=>hv.hy gTb_ok hx
 have hxs:=za2 gTb_ok (.slice none 0 0) 0 (.slice none 0 0) (.slice (some ⟨b,0,none⟩) 1 1)
 have kn:=fun(v:World) (X:List (Nat × Obj)) (hv:St W v J X)=>o_new (A:=none) (ns:=[]) (Ln:=[]) (c:=0) tb gTb gTb_ok 0 (by decide) (by decide) zbr (by decide) (fun s hs=>by cases hs) (fun p hp=>by cases hp) hv
 have ti:=z7 gTb_ok;unfold Tb.val at kn;simp only[List.length_nil]at kn;obtain⟨CT,hCT⟩:∃y,gTb.cells=y:=⟨_,rfl⟩;obtain⟨Ls,hrd,hls⟩:=(al_hy (W:=W) (J:=J) (b:=b) (F:=F)).sp
 have kf:=fun(p:Value) (v:World) (X:List (Nat × Obj)) (hX:∀q∈Ls,q∈X) (hv:St W v J X)=>c_found (c:=1) (p:=p) hrd (fun s hs=>by simp at hs;rw[hs];exact uq) (by decide) hX (by decide) hv
 simp only[List.length_cons,List.length_nil,Nat.zero_add]at kf;obtain⟨HX,hHX⟩:∃y,(y7 gTb (.slice none 0 0) 0 (.slice none 0 0) (.slice (some ⟨b,0,none⟩) 1 1))=y:=⟨_,rfl⟩;obtain⟨SX,hSX⟩:∃y,alS.cells=y:=⟨_,rfl⟩;rw[hHX]at h1 hat ⊢;rw[hSX]at h1 hls ⊢;rw[hCT]at kn ti
 have fx:=fun(v:World) (X:List (Nat × Obj)) (hv:St W v J X) (hx:(g,.cells HX 34 (0,0))∈X)=>(⟨(hat v X hv hx).first,(hat v X hv hx).names,(hat v X hv hx).trs,(hat v X hv hx).log,(hat v X hv hx).spans⟩:v.rangeAt g 0 gTb.cells.toList∧v.cell? ⟨g,75,none⟩=some (.slice none 0 0)∧v.cell? ⟨g,76,none⟩=some (.int .i64 0)∧v.cell? ⟨g,77,none⟩=some (.slice none 0 0)∧v.cell? ⟨g,78,none⟩=some (.slice (some ⟨b,0,none⟩) 1 1))
 rw[hCT]at fx;obtain⟨-,-,-,q77,q78⟩:=fx _ _ h1 (by simp);have hsc:=h1.alloc (.cells #[.slice (some ⟨b,0,none⟩) 1 1,.slice none 0 0] 80);rw[World.size_alloc,hg]at hsc
 have fsx:=fun(v:World) (X:List (Nat × Obj)) (hv:St W v J X) (h1:(g+1,Obj.cells #[.slice (some ⟨b,0,none⟩) 1 1,.slice none 0 0] 80 (0,0))∈X) (h2:(g,.cells HX 34 (0,0))∈X)=>(⟨hv.cell h1 0,hv.cell h1 1,(fx v X hv h2).1,(fx v X hv h2).2.1,(fx v X hv h2).2.2.1⟩:v.cell? ⟨g+1,0,none⟩=some (.slice (some ⟨b,0,none⟩) 1 1)∧v.cell? ⟨g+1,1,none⟩=some (.slice none 0 0)∧v.rangeAt g 0 CT.toList∧v.cell? ⟨g,75,none⟩=some (.slice none 0 0)∧v.cell? ⟨g,76,none⟩=some (.int .i64 0))
 have H1:=za hsc;have KN:=za kn;have KF:=za kf;have FSX:=za fsx;have HLS:=za hls;have TI:Hid ((Tryz.prog.info? 29).map (·.size)=some CT.toList.length):=za (by rw[Array.length_toList];exact ti);have HUT:=za Tryz.underlying29;clear hsc h1 h kn kf fsx fx hat hxs hls hrd ti hHX hSX hCT tb
 go_enter Tryz.func11,Tryz.ntmps11
 go_wp2_with fail;clear q77 q78
 go_loopw [12] (fun v wr=>v=.int .i64 0∧St W wr J ((g+1,.cells #[.slice (some ⟨b,0,none⟩) 1 1,.slice none 0 0] 80 (0,0))::(g,.cells HX 34 (0,0))::(b,.cells SX 71 (0,0))::F)) (fun v _=>0)
 case atStart=>exact⟨rfl,H1.out⟩
 case round=>
  obtain⟨rfl,hst⟩:=hrel;obtain⟨s0,s1',-,-,-⟩:=FSX.out _ _ hst (by simp) (by simp);have HST:=za hst;clear hst H1;go_wp2_with fail;have HDW:=za HST.out.drew1;have s1:=FSX.out _ _ HDW.out (by simp) (by simp);refine wp_region_held_drew (S:=fun v=>v.cell? ⟨g+1,0,none⟩=some (.slice (some ⟨b,0,none⟩) 1 1)∧v.cell? ⟨g+1,1,none⟩=some (.slice none 0 0)∧v.rangeAt g 0 CT.toList∧v.cell? ⟨g,75,none⟩=some (.slice none 0 0)∧v.cell? ⟨g,76,none⟩=some (.int .i64 0)) (by kernel_rfl) s1 (fun hHeld=>?_)
  refine tk op0 (v:=?_) (by kernel_rfl) ?_ (by assumption) ?_ fun _ _ _ h=>h
  rotate_left
  ·((refine Or.inl ⟨by rfl,?_⟩;intro w hSw;obtain⟨hS1,hS2,hS3,hS4,hS5⟩:=hSw;go_simp;try with_reducible rfl))
  try simp only[Act.put,pu1,pu2,pu3]
  refine tk op1 (v:=?_) (by kernel_rfl) ?_ (by assumption) ?_ fun _ _ _ h=>h
  rotate_left
  ·(refine ya rfl fun w hSw=>?_;go_simp;rfl)
  try simp only[Act.put,pu1,pu2,pu3]
  refine tk op2 (v:=?_) (by kernel_rfl) ?_ (by assumption) ?_ fun _ _ _ h=>h
  rotate_left
  ·(((refine yieldsIf_load_mid ?_ 29 (.tmp 39) ?_ g 0 ?_ CT.toList _ ?_ HUT.out ?_ TI.out)<;>first|rfl|exact fun w h=>h.2.2.1))
  try simp only[Act.put,pu1,pu2,pu3]
  refine tk op3 (v:=?_) (by kernel_rfl) ?_ (by assumption) ?_ fun _ _ _ h=>h
  rotate_left
  ·(refine ya rfl fun w hSw=>?_;go_simp;rfl)
  try simp only[Act.put,pu1,pu2,pu3]
  refine tk op4 (v:=?_) (by kernel_rfl) ?_ (by assumption) ?_ fun _ _ _ h=>h
  rotate_left
  ·((refine Or.inl ⟨by rfl,?_⟩;intro w hSw;obtain⟨hS1,hS2,hS3,hS4,hS5⟩:=hSw;go_simp;try with_reducible rfl))
  try simp only[Act.put,pu1,pu2,pu3]
  refine tk op5 (v:=?_) (by kernel_rfl) ?_ (by assumption) ?_ fun _ _ _ h=>h
  rotate_left
  ·(refine ya rfl fun w hSw=>?_;go_simp;rfl)
  try simp only[Act.put,pu1,pu2,pu3]
  refine tk op6 (v:=?_) (by kernel_rfl) ?_ (by assumption) ?_ fun _ _ _ h=>h
  rotate_left
  ·((refine Or.inl ⟨by rfl,?_⟩;intro w hSw;obtain⟨hS1,hS2,hS3,hS4,hS5⟩:=hSw;go_simp;try with_reducible rfl))
  try simp only[Act.put,pu1,pu2,pu3]
  refine rd1 op7 (by kernel_rfl) fun K hK=>?_
  go_simp
  ((go_at_call 14;(with_reducible refine(KN.out _ _ HDW.out).mono ?_);rintro e1 wx ⟨g',A',c2,L2,rfl,mo,hx⟩;dsimp only))
  refine hK.out _ _ ?_ fun hHeld=>?_
  ·(try dsimp only)<;>((exact FSX.out _ _ hx (by simp) (by simp)))
  clear hK K
  try simp only[Act.put,pu1,pu2,pu3]
  refine rd1 op8 (by kernel_rfl) fun K hK=>?_
  go_simp
  ((go_at_call 30;(with_reducible refine(KF.out _ _ _ (fun q hq=>by have:=HLS.out q hq;simp at this ⊢;rcases this with h|h<;>simp[h]) hx).mono ?_);rintro e2 wy ⟨rfl,hy⟩;dsimp only))
  refine hK.out _ _ ?_ fun hHeld=>?_
  ·(try dsimp only)<;>((exact FSX.out _ _ hy (by simp) (by simp)))
  clear hK K
  try simp only[Act.put,pu1,pu2,pu3]
  refine tk op9 (v:=?_) (by kernel_rfl) ?_ (by assumption) ?_ fun _ _ _ h=>h
  rotate_left
  ·(refine ya rfl fun w hSw=>?_;go_simp;rfl)
  try simp only[Act.put,pu1,pu2,pu3]
  refine wpAnyH_done (by kernel_rfl) ?_ _;have HY:=za (hy.keep (M:=(b,.cells SX 71 (0,0))::F) ((g',.cells ((newM gTb 0).cells (.slice A' (filtN []).length c2)) 88 (0,0))::(L2++[(g+1,.cells #[.slice (some ⟨b,0,none⟩) 1 1,.slice none 0 0] 80 (0,0)),(g,.cells HX 34 (0,0))])) (fun i a=>by simp only[List.count_append,List.count_cons,List.count_nil]<;>omega));clear hx hy s1 HDW mo KN KF;go_wp2_with fail;go_ret;exact⟨rfl,HY.out⟩
theorem c_places (h:St W w J F):Calls Tryz.prog 25 #[.slice none 0 0] w fun e w'=>∃m,e=.returned (.tuple #[.map (some m),.bool true])∧St W w' J ((m,yp [])::F):=by
 have h1:=h.alloc (yp []);obtain⟨g,hg⟩:∃g,w.heap.size=g:=⟨_,rfl⟩;rw[hg]at h1;have hmm:=@run_makeMap Tryz.prog;have H1:=za h1;clear h1 h
 go_enter Tryz.func25,Tryz.ntmps25
 go_wp2_with fail;clear hmm
 go_loopw [12] (fun v wr=>v=.int .i64 0∧St W wr J ((g,yp [])::F)) (fun v _=>0)
 case atStart=>exact⟨rfl,H1.out⟩
 case round=>
  obtain⟨rfl,hst⟩:=hrel;have HST:=za hst;clear hst H1;go_wp2_with fail
  go_ret2
  exact⟨g,rfl,HST.out⟩
theorem c_answered {b m:Nat} (h:St W w J ((m,yp [])::(b,.cells alS.cells 71 (0,0))::F)) :
  Calls Tryz.prog 26 #[.agg (y7 gTb (.slice none 0 0) 0 (.slice none 0 0) (.slice (some ⟨b,0,none⟩) 1 1)),.map (some m)] w fun e w'=>e=.returned (.bool true)∧St W w' J ((m,yp [])::(b,.cells alS.cells 71 (0,0))::F):=by
 have h1:=h.alloc (.cells (y7 gTb (.slice none 0 0) 0 (.slice none 0 0) (.slice (some ⟨b,0,none⟩) 1 1)) 34);obtain⟨g,hg⟩:∃g,w.heap.size=g:=⟨_,rfl⟩;rw[hg]at h1
 have hat:=fun(v:World) (X:List (Nat × Obj)) (hv:St W v J X) (hx:(g,Obj.cells (y7 gTb (.slice none 0 0) 0 (.slice none 0 0) (.slice (some ⟨b,0,none⟩) 1 1)) 34 (0,0))∈X)=>hv.hy gTb_ok hx
 have hxs:=za2 gTb_ok (.slice none 0 0) 0 (.slice none 0 0) (.slice (some ⟨b,0,none⟩) 1 1);have h2:=h1.alloc (.map #[] 0);rw[World.size_alloc,hg]at h2;obtain⟨gq,hgq⟩:∃y,g+1=y:=⟨_,rfl⟩;rw[hgq]at h2;have hmm:=@run_makeMap Tryz.prog;have xsz:=Sp.size uq;have xi:=sp_info uq;have xo:=Sp.one alS
 have fs:=fun(v:World) (X:List (Nat × Obj)) (b':Nat) (hv:St W v J X) (hm:(b',Obj.cells alS.cells 71 (0,0))∈X)=>(⟨(hv.spAt uq hm).serial,(hv.spAt uq hm).upto,fun j u hj=>by rw[Nat.zero_add,hv.cell hm j];simpa using hj⟩:v.cell? ⟨b',0,none⟩=some (.int .i64 1)∧v.cell? ⟨b',2,none⟩=some (.int .i64 0)∧v.rangeAt b' 0 alS.cells.toList)
 obtain⟨HX,hHX⟩:∃y,(y7 gTb (.slice none 0 0) 0 (.slice none 0 0) (.slice (some ⟨b,0,none⟩) 1 1))=y:=⟨_,rfl⟩;obtain⟨SX,hSX⟩:∃y,alS.cells=y:=⟨_,rfl⟩;rw[hHX]at h1 h2 hat ⊢;rw[hSX]at h2 xsz xi xo fs ⊢
 have fx:=fun(v:World) (X:List (Nat × Obj)) (hv:St W v J X) (hx:(g,.cells HX 34 (0,0))∈X)=>(⟨(hat v X hv hx).log,(hat v X hv hx).spans⟩:v.cell? ⟨g,77,none⟩=some (.slice none 0 0)∧v.cell? ⟨g,78,none⟩=some (.slice (some ⟨b,0,none⟩) 1 1))
 have xfit:0+SX.size≤Tryz.zeroCells71.size:=by rw[xsz,zspan];omega
 have xmany:zg Tryz.zeroCells71 0 SX.toList=SX:=by rw[zd _ _ (by rw[Array.length_toList,xsz,zspan]),Array.toArray_toList]
 have H2:=za h2;have FX:=za fx;have FSx:=za fs;have XF:=za xfit;have XM:=za xmany;have XI:=za xi;have XO:=za xo;obtain⟨q77,q78⟩:=fx _ _ h2 (by simp);clear h1 h2 h fx fs xfit xmany xi xo xsz hat hxs hHX hSX
 go_enter Tryz.func26,Tryz.ntmps26
 go_wp2_with fail;clear hmm q77 q78 hgq
 go_loopw [20] (fun v wr=>(v=.int .i64 0∧St W wr J ((gq,yp [])::(g,.cells HX 34 (0,0))::(m,yp [])::(b,.cells SX 71 (0,0))::F))∨(v=.int .i64 1∧St W wr J ((gq,yp [(1,0)])::(g,.cells HX 34 (0,0))::(m,yp [])::(b,.cells SX 71 (0,0))::F))) (fun v _=>1-(intOf v).toNat)
 case atStart=>exact .inl ⟨rfl,H2.out⟩
 case round=>
  clear H2
  rcases hrel with⟨rfl,hst⟩|⟨rfl,hst⟩
  ·have h3:=hst.alloc (.cells Tryz.zeroCells71 71)
   have HST:=za hst;have H3:=za h3;clear hst h3
   go_wp2_with (first|(with_reducible refine zb 24 rfl (by kernel_rfl) 71 (.tmp 23) rfl b 0 rfl SX _ (FSx.out _ _ _ HST.out (by simp)).2.2 Tryz.underlying71 rfl XI.out ?_)|(with_reducible refine zc rfl 71 (.tmp 7) (.tmp 24) rfl (g:=wr.heap.size) (off:=0) SX rfl rfl H3.out XF.out XI.out XO.out ?_;intro w3 h3;refine Hid.out ?_))
   refine za ?_;rw[XM.out]at h3;obtain⟨gx,hgx⟩:∃y,wr.heap.size=y:=⟨_,rfl⟩;rw[hgx]at h3 ⊢;obtain⟨c0,c2,-⟩:=FSx.out _ _ gx h3 (by simp);have lq:=za3 h3 (b:=gq) (l:=[]) (by simp) 1;obtain⟨mu,h5⟩:=map_put (h3.perm (L':=(gq,yp [])::(gx,.cells SX 71 (0,0))::(g,.cells HX 34 (0,0))::(m,yp [])::(b,.cells SX 71 (0,0))::F) ze) 1 0;obtain⟨d0,d2,-⟩:=FSx.out _ _ gx h5 (by simp);have la:=za3 h5 (b:=m) (l:=[]) (by simp) 1;have HZ:=za (h5.keep (M:=(gq,yp [(1,0)])::(g,.cells HX 34 (0,0))::(m,yp [])::(b,.cells SX 71 (0,0))::F) [(gx,.cells SX 71 (0,0))] (fun i a=>by simp only[putI,List.count_append,List.count_cons,List.count_nil]<;>omega));rw[show(lookI [] 1).isSome=false from rfl]at lq la;clear h3 h5 H3 HST hgx;go_wp2_with fail
   go_quiet (fail)
   go_wp2_with fail
   go_roundw
   case rel=>exact .inr ⟨rfl,HZ.out.drew _⟩
   case measure=>simp[intOf]
  ·obtain⟨q77,q78⟩:=FX.out _ _ hst (by simp)
   have HST:=za hst;clear hst;go_wp2_with fail;clear q77 q78
   go_loopw [83] (fun v wr=>v=.int .i64 0∧St W wr J ((gq,yp [(1,0)])::(g,.cells HX 34 (0,0))::(m,yp [])::(b,.cells SX 71 (0,0))::F)) (fun v _=>0)
   case atStart=>exact⟨rfl,HST.out⟩
   case round=>
    obtain⟨rfl,hst⟩:=hrel;have HZ:=za (hst.keep (M:=(m,yp [])::(b,.cells SX 71 (0,0))::F) [(gq,yp [(1,0)]),(g,.cells HX 34 (0,0))] (fun i a=>by simp only[List.count_append,List.count_cons,List.count_nil]<;>omega));clear hst HST;go_wp2_with fail;go_ret;exact⟨rfl,HZ.out⟩
theorem c_check {b:Nat} (tb:Go.Proofs.YtnjnooeldkideaaGreatDoor.TB W J) (h:St W w J ((b,.cells alS.cells 71 (0,0))::F)) :
  Calls Tryz.prog 9 #[.agg (y7 gTb (.slice none 0 0) 0 (.slice none 0 0) (.slice (some ⟨b,0,none⟩) 1 1))] w fun e w'=>e=.returned (.int .i64 0)∧St W w' J ((b,.cells alS.cells 71 (0,0))::F):=by
 have h1:=h.alloc (.cells (y7 gTb (.slice none 0 0) 0 (.slice none 0 0) (.slice (some ⟨b,0,none⟩) 1 1)) 34);obtain⟨g,hg⟩:∃g,w.heap.size=g:=⟨_,rfl⟩;rw[hg]at h1
 have hat:=fun(v:World) (X:List (Nat × Obj)) (hv:St W v J X) (hx:(g,Obj.cells (y7 gTb (.slice none 0 0) 0 (.slice none 0 0) (.slice (some ⟨b,0,none⟩) 1 1)) 34 (0,0))∈X)=>hv.hy gTb_ok hx
 have hxs:=za2 gTb_ok (.slice none 0 0) 0 (.slice none 0 0) (.slice (some ⟨b,0,none⟩) 1 1)
 have kn:=fun(v:World) (X:List (Nat × Obj)) (hv:St W v J X)=>o_new (A:=none) (ns:=[]) (Ln:=[]) (c:=0) tb gTb gTb_ok 0 (by decide) (by decide) zbr (by decide) (fun s hs=>by cases hs) (fun p hp=>by cases hp) hv
 have ti:=z7 gTb_ok;unfold Tb.val at kn;simp only[List.length_nil]at kn;obtain⟨CT,hCT⟩:∃y,gTb.cells=y:=⟨_,rfl⟩
 have kp:=fun(v:World) (X:List (Nat × Obj)) (hv:St W v J X)=>c_places hv
 have ka:=fun(m:Nat) (v:World) (X:List (Nat × Obj)) (hv:St W v J ((m,yp [])::(b,.cells alS.cells 71 (0,0))::X))=>c_answered hv
 have xsz:=Sp.size uq;have xi:=sp_info uq;have xo:=Sp.one alS
 have fs:=fun(v:World) (X:List (Nat × Obj)) (b':Nat) (hv:St W v J X) (hm:(b',Obj.cells alS.cells 71 (0,0))∈X)=>(⟨(hv.spAt uq hm).serial,fun j u hj=>by rw[Nat.zero_add,hv.cell hm j];simpa using hj⟩:v.cell? ⟨b',0,none⟩=some (.int .i64 1)∧v.rangeAt b' 0 alS.cells.toList)
 obtain⟨HX,hHX⟩:∃y,(y7 gTb (.slice none 0 0) 0 (.slice none 0 0) (.slice (some ⟨b,0,none⟩) 1 1))=y:=⟨_,rfl⟩;obtain⟨SX,hSX⟩:∃y,alS.cells=y:=⟨_,rfl⟩;rw[hHX]at h1 hat hxs ka ⊢;rw[hSX]at h1 ka xsz xi xo fs ⊢;rw[hCT]at kn ti
 have fx:=fun(v:World) (X:List (Nat × Obj)) (hv:St W v J X) (hx:(g,.cells HX 34 (0,0))∈X)=>(⟨(hat v X hv hx).first,(hat v X hv hx).names,(hat v X hv hx).trs,(hat v X hv hx).log,(hat v X hv hx).spans,fun j u hj=>by rw[Nat.zero_add,hv.cell hx j];simpa using hj⟩:v.rangeAt g 0 gTb.cells.toList∧v.cell? ⟨g,75,none⟩=some (.slice none 0 0)∧v.cell? ⟨g,76,none⟩=some (.int .i64 0)∧v.cell? ⟨g,77,none⟩=some (.slice none 0 0)∧v.cell? ⟨g,78,none⟩=some (.slice (some ⟨b,0,none⟩) 1 1)∧v.rangeAt g 0 HX.toList)
 rw[hCT]at fx
 have hinf:(Tryz.prog.info? 34).map (·.size)=some HX.size:=by rw[hxs];kernel_rfl
 have xfit:0+SX.size≤Tryz.zeroCells71.size:=by rw[xsz,zspan];omega
 have xmany:zg Tryz.zeroCells71 0 SX.toList=SX:=by rw[zd _ _ (by rw[Array.length_toList,xsz,zspan]),Array.toArray_toList]
 have H1:=za h1;have KN:=za kn;have KP:=za kp;have KA:=za ka;have FX:=za fx;have FSx:=za fs;have HINF:=za hinf;have XF:=za xfit;have XM:=za xmany;have XI:=za xi;have XO:=za xo;have TI:=za ti;obtain⟨-,q75,q76,-,-,-⟩:=fx _ _ h1 (by simp);clear h1 h kn kp ka fx fs hinf xfit xmany xi xo xsz hat hxs hHX hSX hCT ti tb
 go_enter Tryz.func9,Tryz.ntmps9
 go_wp2_with (with_reducible refine zb 17 rfl (by kernel_rfl) 29 (.tmp 16) rfl g 0 rfl CT _ (FX.out _ _ H1.out (by simp)).1 Tryz.underlying29 rfl TI.out ?_)
 refine(KN.out _ _ H1.out).mono ?_;rintro e w2 ⟨gm,A,c,L0,rfl,mo,h2⟩;clear mo q75 q76;obtain⟨-,-,-,q77,-,-⟩:=FX.out _ _ h2 (by simp);have H2:=za (h2.keep (M:=(g,.cells HX 34 (0,0))::(b,.cells SX 71 (0,0))::F) ((gm,.cells ((newM gTb 0).cells (.slice A (filtN []).length c)) 88 (0,0))::L0) (fun i a=>by simp only[List.count_append,List.count_cons,List.count_nil]<;>omega));clear h2 H1 KN;go_wp2_with fail;clear q77
 go_loopw [26] (fun v wr=>v=.int .i64 0∧St W wr J ((g,.cells HX 34 (0,0))::(b,.cells SX 71 (0,0))::F)) (fun v _=>0)
 case atStart=>exact⟨rfl,H2.out⟩
 case round=>
  obtain⟨rfl,hst⟩:=hrel;obtain⟨-,-,-,q77,-,-⟩:=FX.out _ _ hst (by simp);have HST:=za hst;clear hst H2;go_wp2_with fail;refine(KP.out _ _ HST.out).mono ?_;rintro e w3 ⟨m,rfl,h3⟩;have h4:=h3.perm (L':=(m,yp [])::(b,.cells SX 71 (0,0))::((g,.cells HX 34 (0,0))::F)) ze;have H4:=za h4;clear h3 h4 HST q77
  go_wp2_with (with_reducible refine zb 44 rfl (by kernel_rfl) 34 (.tmp 1) rfl g 0 rfl HX _ (FX.out _ _ H4.out (by simp)).2.2.2.2.2 Tryz.underlying34 rfl HINF.out ?_)
  refine(KA.out m _ _ H4.out).mono ?_;rintro e w5 ⟨rfl,h5⟩;obtain⟨-,-,-,-,q78,-⟩:=FX.out _ _ h5 (by simp);have H5:=za h5;clear h5 H4;go_wp2_with fail;clear q78
  go_loopw [52] (fun v wr=>(v=.int .i64 0∨v=.int .i64 1)∧St W wr J ((m,yp [])::(b,.cells SX 71 (0,0))::(g,.cells HX 34 (0,0))::F)) (fun v _=>1-(intOf v).toNat)
  case atStart=>exact⟨.inl rfl,H5.out⟩
  case round=>
   clear H5;obtain⟨rfl|rfl,hst⟩:=hrel
   ·have h3:=hst.alloc (.cells Tryz.zeroCells71 71)
    have HST:=za hst;have H3:=za h3;clear hst h3
    go_wp2_with (first|(with_reducible refine zb 55 rfl (by kernel_rfl) 71 (.tmp 54) rfl b 0 rfl SX _ (FSx.out _ _ _ HST.out (by simp)).2 Tryz.underlying71 rfl XI.out ?_)|(with_reducible refine zc rfl 71 (.tmp 9) (.tmp 55) rfl (g:=wr.heap.size) (off:=0) SX rfl rfl H3.out XF.out XI.out XO.out ?_;intro w3 h3;refine Hid.out ?_))
    refine za ?_;rw[XM.out]at h3;obtain⟨gx,hgx⟩:∃y,wr.heap.size=y:=⟨_,rfl⟩;rw[hgx]at h3 ⊢;obtain⟨-,-,-,-,q78,-⟩:=FX.out _ _ h3 (by simp);have H6:=za h3;clear h3 H3 HST hgx;go_wp2_with fail;clear q78
    go_loopw [59] (fun v wr=>(v=.int .i64 0∨v=.int .i64 1)∧St W wr J ((gx,.cells SX 71 (0,0))::(m,yp [])::(b,.cells SX 71 (0,0))::(g,.cells HX 34 (0,0))::F)) (fun v _=>1-(intOf v).toNat)
    case atStart=>exact⟨.inl rfl,H6.out⟩
    case round=>
     clear H6;obtain⟨rfl|rfl,hst⟩:=hrel
     ·have h3:=hst.alloc (.cells Tryz.zeroCells71 71)
      have HST:=za hst;have H3:=za h3;clear hst h3
      go_wp2_with (first|(with_reducible refine zb 62 rfl (by kernel_rfl) 71 (.tmp 61) rfl b 0 rfl SX _ (FSx.out _ _ _ HST.out (by simp)).2 Tryz.underlying71 rfl XI.out ?_)|(with_reducible refine zc rfl 71 (.tmp 11) (.tmp 62) rfl (g:=wr.heap.size) (off:=0) SX rfl rfl H3.out XF.out XI.out XO.out ?_;intro w3 h3;refine Hid.out ?_))
      refine za ?_;rw[XM.out]at h3;obtain⟨gy,hgy⟩:∃y,wr.heap.size=y:=⟨_,rfl⟩;rw[hgy]at h3 ⊢;obtain⟨c0,-⟩:=FSx.out _ _ gx h3 (by simp);obtain⟨d0,-⟩:=FSx.out _ _ gy h3 (by simp);have lq:=za3 h3 (b:=m) (l:=[]) (by simp) 1;rw[show(lookI [] 1).isSome=false from rfl]at lq;have HZ:=za (h3.keep (M:=(gx,.cells SX 71 (0,0))::(m,yp [])::(b,.cells SX 71 (0,0))::(g,.cells HX 34 (0,0))::F) [(gy,.cells SX 71 (0,0))] (fun i a=>by simp only[List.count_append,List.count_cons,List.count_nil]<;>omega));clear h3 H3 HST hgy;go_wp2_with fail
      try (go_quiet (fail);go_wp2_with fail)
      go_roundw
      case rel=>exact⟨.inr rfl,by (exact HZ.out)⟩
      case measure=>simp[intOf]
     ·have HZ:=za (hst.keep (M:=(m,yp [])::(b,.cells SX 71 (0,0))::(g,.cells HX 34 (0,0))::F) [(gx,.cells SX 71 (0,0))] (fun i a=>by simp only[List.count_append,List.count_cons,List.count_nil]<;>omega))
      clear hst;go_wp2_with fail
      go_roundw
      case rel=>exact⟨.inr rfl,HZ.out⟩
      case measure=>simp[intOf]
   ·have HZ:=za (hst.keep (M:=(b,.cells SX 71 (0,0))::F) [(m,yp []),(g,.cells HX 34 (0,0))] (fun i a=>by simp only[List.count_append,List.count_cons,List.count_nil]<;>omega))
    clear hst;go_wp2_with fail;go_ret;exact⟨rfl,HZ.out⟩
end
end

section
set_option linter.unusedVariables false
set_option linter.unusedSimpArgs false
open Go.RowKit Go.Lib Go.Deep
section
variable {W w:World} {J:Nat→Option Obj} {t:Tb} {F:List (Nat × Obj)}
theorem run_f1 (w:World):(Instr.field 29 (.agg alM2.known.cells) 0).run Tryz.prog w=.ok (.agg (gS.cells++(bareS 1).cells)) w:=by kernel_rfl
theorem run_f2 (w:World):(Instr.index 27 (.agg (gS.cells++(bareS 1).cells)) (.int .i64 1)).run Tryz.prog w=.ok (.agg (bareS 1).cells) w:=by kernel_rfl
theorem run_f3 (w:World):(Instr.field 26 (.agg (bareS 1).cells) 0).run Tryz.prog w=.ok (.int .i64 1) w:=by kernel_rfl
theorem al_rep:zbl alM [coreB] alC 0=(⟨0,1,0,0,0,zTb⟩,true):=by kernel_rfl
theorem hy_one (t:Tb) (nv:Value) (tries:Int) (lv sv:Value) (h1:nv.oneCell'=true) (h2:lv.oneCell'=true) (h3:sv.oneCell'=true):(y7 t nv tries lv sv).all (·.oneCell')=true:=by
 have h0:t.cells.toList.all (·.oneCell')=true:=by have h:=t.one;rw[←Array.all_toList]at h;exact h
 unfold y7;rw[List.all_toArray,List.all_append,h0]
 simp[h1,h2,h3]
 rfl
theorem law_alive (tb:Go.Proofs.YtnjnooeldkideaaGreatDoor.TB W J) (h:St W w J F):Calls Tryz.prog 7 #[] w fun e w'=>e=.returned (.bool true)∧St W w' J F:=by
 have kg:=fun(v:World) (X:List (Nat × Obj)) (hv:St W v J X)=>law_good hv
 have kn:=fun(v:World) (X:List (Nat × Obj)) (hv:St W v J X)=>o_new (c:=1) tb gTb gTb_ok 3 (by decide) (by decide) (al_rd (b:=v.heap.size)) (by decide) (fun s hs=>by simp at hs;rw[hs];decide) (F:=(v.heap.size,.cells #[.string coreB] 9 (0,0))::X) (fun p hp=>by simp at hp;simp[hp]) (hv.alloc (.cells #[.string coreB] 9))
 have kr:=fun(A:Option Addr) (c:Nat) (Ln:List (Nat × Obj)) (mo:MOk J alM [coreB] A 1 c Ln) (gm:Nat) (v:World) (X:List (Nat × Obj)) (hL:∀p∈Ln,p∈X) (hv:St W v J X) (hm:(gm,Obj.cells (alM.cells (.slice A 1 c)) 88 (0,0))∈X)=>o_reply tb mo alC alC_ok (by decide) 0 (by decide) (by decide) hL hv hm
 have kd:=fun(A:Option Addr) (c:Nat) (Ln:List (Nat × Obj)) (mo:MOk J alM [coreB] A 1 c Ln) (gm:Nat) (v:World) (X:List (Nat × Obj)) (hL:∀p∈Ln,p∈X) (hv:St W v J ((gm,Obj.cells (alM.cells (.slice A 1 c)) 88 (0,0))::X))=>o_do tb mo alE alE_ok (by decide) hL hv
 have kv:=fun(nv:Value) (gm:Nat) (v:World) (X:List (Nat × Obj)) (hv:St W v J X) (hm:(gm,Obj.cells (alM2.cells nv) 88 (0,0))∈X)=>o_live alM2_ok hv hm
 have kt:=fun(nv:Value) (gm:Nat) (v:World) (X:List (Nat × Obj)) (hv:St W v J X) (hm:(gm,Obj.cells (alM2.cells nv) 88 (0,0))∈X)=>o_table alM2_ok hv hm
 have kc:=fun(b:Nat) (v:World) (X:List (Nat × Obj)) (hv:St W v J ((b,.cells alS.cells 71 (0,0))::X))=>c_check tb hv
 have kf:=fun(b:Nat) (v:World) (X:List (Nat × Obj)) (hv:St W v J ((b,.cells alS.cells 71 (0,0))::X))=>c_find tb hv
 rw[al_rep]at kr;simp only[al_do,Option.isSome_some,Option.getD_some]at kd;rw[al_names]at kn;have bl:∀v,(Instr.build 52 #[(1,.int .i64 1)]).run Tryz.prog v=.ok (.agg (⟨0,1,0,0,0,zTb⟩:Ry).cells) v:=run_build_alr;have be:∀v,(Instr.build 54 #[(0,.int .i64 1),(1,.int .i64 5),(2,.agg #[Value.int .i64 0,.int .i64 1,.int .i64 0,.int .i64 0,.string ⟨#[67,79,82,69]⟩]),(3,.agg (⟨0,1,0,0,0,zTb⟩:Ry).cells)]).run Tryz.prog v=.ok (.agg alE.cells) v:=run_build_ale;have bs:∀v,(Instr.build 71 #[(0,.int .i64 1),(1,.int .i64 1),(3,.agg #[Value.int .i64 0,.int .i64 3,.int .i64 0,.int .i64 0,.string ⟨#[]⟩])]).run Tryz.prog v=.ok (.agg alS.cells) v:=run_build_als
 have bh:=fun(b:Nat)=>run_build_alh (some ⟨b,0,none⟩) 1 1
 have rsz:=Ry.size (r:=(⟨0,1,0,0,0,zTb⟩:Ry)) zt;have rai:=yu (r:=(⟨0,1,0,0,0,zTb⟩:Ry)) zt;have rao:=Ry.one (⟨0,1,0,0,0,zTb⟩:Ry);have r1:(⟨0,1,0,0,0,zTb⟩:Ry).cells[1]?=some (.int .i64 1):=rfl;have ssz:=Sp.size uq
 have hsz:=fun(b:Nat)=>za2 gTb_ok (.slice none 0 0) 0 (.slice none 0 0) (.slice (some ⟨b,0,none⟩) 1 1)
 have hao:=fun(b:Nat)=>hy_one gTb (.slice none 0 0) 0 (.slice none 0 0) (.slice (some ⟨b,0,none⟩) 1 1) rfl rfl rfl
 have hin:(Tryz.prog.info? 34).map (·.size)=some 79:=by kernel_rfl
 unfold Tb.val at kg kn kt;unfold En.val at kd;unfold Cl.val at kr;obtain⟨GT,hGT⟩:∃y,gTb.cells=y:=⟨_,rfl⟩;obtain⟨RC,hRC⟩:∃y,(⟨0,1,0,0,0,zTb⟩:Ry).cells=y:=⟨_,rfl⟩;obtain⟨EX,hEX⟩:∃y,alE.cells=y:=⟨_,rfl⟩;obtain⟨SX,hSX⟩:∃y,alS.cells=y:=⟨_,rfl⟩;obtain⟨HXF,hHX⟩:∃y:Nat→Array Value,(fun b=>y7 gTb (.slice none 0 0) 0 (.slice none 0 0) (.slice (some ⟨b,0,none⟩) 1 1))=y:=⟨_,rfl⟩
 have hHX2:∀b,y7 gTb (.slice none 0 0) 0 (.slice none 0 0) (.slice (some ⟨b,0,none⟩) 1 1)=HXF b:=fun b=>by rw[←hHX]
 have kc2:∀(b:Nat) (v:World) (X:List (Nat × Obj)),St W v J ((b,.cells SX 71 (0,0))::X)→Calls Tryz.prog 9 #[.agg (HXF b)] v fun e w'=>e=.returned (.int .i64 0)∧St W w' J ((b,.cells SX 71 (0,0))::X):=fun b v X hv=>by rw[←hHX2,←hSX];rw[←hSX]at hv;exact kc b v X hv
 have kf2:∀(b:Nat) (v:World) (X:List (Nat × Obj)),St W v J ((b,.cells SX 71 (0,0))::X)→Calls Tryz.prog 11 #[.agg (HXF b)] v fun e w'=>e=.returned (.int .i64 0)∧St W w' J ((b,.cells SX 71 (0,0))::X):=fun b v X hv=>by rw[←hHX2,←hSX];rw[←hSX]at hv;exact kf b v X hv
 simp only[hHX2]at bh hsz hao;rw[hGT]at kg kn bh;rw[hRC]at kr bl be rsz rai rao r1;rw[hEX]at kd be;rw[hSX]at bs ssz
 have rfit:0+RC.size≤Tryz.zeroCells52.size:=by rw[rsz,zry];omega
 have rmany:zg Tryz.zeroCells52 0 RC.toList=RC:=by rw[zd _ _ (by rw[Array.length_toList,rsz,zry]),Array.toArray_toList]
 have KG:=za kg;have KN:=za kn;have KR:=za kr;have KD:=za kd;have KV:=za kv;have KT:=za kt;have KC:=za kc2;have KF:=za kf2;have BL:=za bl;have BE:=za be;have BS:=za bs;have BH:=za bh;have RAI:=za rai;have RAO:=za rao;have RFIT:=za rfit;have RMANY:=za rmany;have R1:=za r1;have SSZ:=za ssz;have HSZ:=za hsz;have HAO:=za hao;have HIN:=za hin;have K0:=za (kg _ _ h);clear kg kn kr kd kv kt kc kf kc2 kf2 bl be bs bh rai rao rfit rmany r1 ssz hsz hao hin rsz hGT hRC hEX hSX hHX hHX2 h
 go_enter Tryz.func7,Tryz.ntmps7
 go_wp2_with fail;refine K0.out.mono ?_;rintro e w1 ⟨rfl,h1⟩;have KN2:=za (KN.out _ _ h1);clear h1 KN K0;go_wp2_with fail;refine KN2.out.mono ?_;rintro e w2 ⟨gm,A,c,L0,rfl,mo,h2⟩;have mo:MOk J alM [coreB] A 1 c L0:=mo;have H2:Hid (St W w2 J ((gm,.cells (alM.cells (.slice A 1 c)) 88 (0,0))::(L0++((w1.heap.size,.cells #[.string coreB] 9 (0,0))::F)))):=za h2;have KR2:=za (KR.out A c L0 mo gm _ _ (fun p hp=>by simp[hp]) H2.out (List.mem_cons_self ..));have MO:=za mo;clear h2 mo KN2;obtain⟨bn,hbn⟩:∃y,w1.heap.size=y:=⟨_,rfl⟩;rw[hbn]at H2 KR2;clear hbn;go_wp2_with fail;refine KR2.out.mono ?_;rintro e w3 ⟨rfl,h3⟩;have H3:=za (h3.alloc (.cells Tryz.zeroCells52 52));clear h3 KR2 H2
 go_wp2_with (with_reducible refine zc rfl 52 (.tmp 2) (.tmp 15) rfl (g:=w3.heap.size) (off:=0) RC rfl rfl H3.out RFIT.out RAI.out RAO.out ?_;intro w4 h4;refine Hid.out ?_)
 refine za ?_;rw[RMANY.out]at h4;obtain⟨br,hbr⟩:∃y,w3.heap.size=y:=⟨_,rfl⟩;rw[hbr]at h4 ⊢;have KD2:=za (KD.out A c L0 MO.out gm w4 ((br,.cells RC 52 (0,0))::(L0++((bn,.cells #[.string coreB] 9 (0,0))::F))) (fun p hp=>by simp[hp]) (h4.perm ze));clear h4 H3 hbr KD
 go_wp2_with (first|(with_reducible refine zh rfl 52 _ rfl _ ?_ (BL.out _) ?_;·go_simp)|(with_reducible refine zh rfl 54 _ rfl _ ?_ (BE.out _) ?_;·go_simp))
 refine KD2.out.mono ?_;rintro e w5 ⟨rfl,h5⟩;have KG2:=za (KG.out _ _ h5);clear KD2 h5 KG;go_wp2_with fail;refine KG2.out.mono ?_;rintro e w6 ⟨rfl,h6⟩;have H6:=za h6;have ssz:=SSZ.out;clear KG2 h6
 go_wp2_with (first|(with_reducible refine zh rfl 71 _ rfl _ ?_ (BS.out _) ?_;·go_simp)|(with_reducible refine zh rfl 34 _ rfl _ (by go_simp) (BH.out w6.heap.size _) ?_;refine Hid.out ?_))
 refine za ?_;rw[fold_at0 SX _ 88 SSZ.out,zd _ _ (by rw[Array.length_toList,SSZ.out];rfl),Array.toArray_toList];have h7:=(H6.out.alloc (.cells SX 71)).alloc (.cells Tryz.zeroCells34 34);rw[World.size_alloc]at h7;obtain⟨bs,hbs⟩:∃y,w6.heap.size=y:=⟨_,rfl⟩;rw[hbs]at h7 ⊢
 have hfit:0+(HXF bs).size≤Tryz.zeroCells34.size:=by rw[HSZ.out,show Tryz.zeroCells34.size=79 by kernel_rfl];omega
 have hmany:zg Tryz.zeroCells34 0 (HXF bs).toList=HXF bs:=by rw[zd _ _ (by rw[Array.length_toList,HSZ.out];kernel_rfl),Array.toArray_toList]
 have hinf:(Tryz.prog.info? 34).map (·.size)=some (HXF bs).size:=by rw[HSZ.out];exact HIN.out
 have HFIT:=za hfit;have HMANY:=za hmany;have HINF:=za hinf;have HONE:=za (HAO.out bs);have kcx:=KC.out bs;have kfx:=KF.out bs;obtain⟨HX,hHX⟩:∃y,HXF bs=y:=⟨_,rfl⟩;rw[hHX]at HFIT HMANY HINF HONE kcx kfx ⊢;have H7:=za h7;have KCX:=za kcx;have KFX:=za kfx;clear h7 H6 hfit hmany hinf kcx kfx hHX ssz KC KF HAO HSZ HIN
 go_wp2_with (with_reducible refine zc rfl 34 (.tmp 5) (.tmp 26) rfl (g:=bs+1) (off:=0) HX rfl rfl H7.out HFIT.out HINF.out HONE.out ?_;intro w8 h8;refine Hid.out ?_)
 refine za ?_;rw[HMANY.out]at h8;have r1:=(h8.cell (g:=br) (cs:=RC) (t:=52) (fr:=(0,0)) (by simp) 1).trans R1.out;have KV2:=za (KV.out (.slice A 1 c) gm _ _ h8 (by simp));have KT2:=za (KT.out (.slice A 1 c) gm _ _ h8 (by simp));have H8:=za h8;clear h8 H7;go_wp2_with fail;refine KV2.out.mono ?_;rintro e w9 ⟨rfl,rfl⟩;clear KV2;rw[show alM2.job.live=true from rfl];go_wp2_with fail;refine KT2.out.mono ?_;rintro e w9 ⟨rfl,h9⟩;have H9:=za h9;clear h9 KT2 H8 r1;have f1:=run_f1;have f2:=run_f2;have f3:=run_f3;obtain⟨T1,hT1⟩:∃y,alM2.known.cells=y:=⟨_,rfl⟩;obtain⟨T2,hT2⟩:∃y,gS.cells++(bareS 1).cells=y:=⟨_,rfl⟩;obtain⟨T3,hT3⟩:∃y,(bareS 1).cells=y:=⟨_,rfl⟩;rw[hT1,hT2]at f1;rw[hT2]at f2;rw[hT3]at f2 f3;rw[hT1];clear hT1 hT2 hT3;have RH:Hid (w9.rangeAt (bs+1) 0 HX.toList):=za (fun j u hj=>by rw[Nat.zero_add,H9.out.cell (g:=bs+1) (cs:=HX) (t:=34) (fr:=(0,0)) (by simp) j];simpa using hj);have KC2:=za (KCX.out w9 _ (St.perm (L':=(bs,.cells SX 71 (0,0))::(bs+1,.cells HX 34 (0,0))::(gm,.cells (alM2.cells (.slice A 1 c)) 88 (0,0))::(br,.cells RC 52 (0,0))::(L0++((bn,.cells #[.string coreB] 9 (0,0))::F))) H9.out ze));clear H9 KCX
 go_wp2_with (with_reducible refine zb 49 rfl (by kernel_rfl) 34 (.tmp 5) rfl (bs+1) 0 rfl HX _ RH.out Tryz.underlying34 rfl HINF.out ?_)
 refine KC2.out.mono ?_;rintro e w10 ⟨rfl,h10⟩;have RH2:Hid (w10.rangeAt (bs+1) 0 HX.toList):=za (fun j u hj=>by rw[Nat.zero_add,h10.cell (g:=bs+1) (cs:=HX) (t:=34) (fr:=(0,0)) (by simp) j];simpa using hj);have KF2:=za (KFX.out w10 _ h10);clear h10 KC2 RH KFX
 go_wp2_with (with_reducible refine zb 54 rfl (by kernel_rfl) 34 (.tmp 5) rfl (bs+1) 0 rfl HX _ RH2.out Tryz.underlying34 rfl HINF.out ?_)
 refine KF2.out.mono ?_;rintro e w11 ⟨rfl,h11⟩;have HZ:=za (h11.keep (M:=F) ((bs,.cells SX 71 (0,0))::(bs+1,.cells HX 34 (0,0))::(gm,.cells (alM2.cells (.slice A 1 c)) 88 (0,0))::(br,.cells RC 52 (0,0))::(L0++[(bn,.cells #[.string coreB] 9 (0,0))])) (fun i a=>by simp only[List.count_append,List.count_cons,List.count_nil];omega));clear h11 KF2 RH2;go_wp2_with fail;go_ret;exact⟨rfl,HZ.out⟩
end
end
end Go.Proofs.YtnjnooeldkideaaGreatDoor
