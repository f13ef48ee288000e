/- order: what an install is answered, of a name that isn't had. order: what an install is answered, of a name that is had. order: what a call is answered, in one; Reply. -/
import Derived.Test.YtnjnooeldkideaaGreatDoorMGlyphC
import Derived.Test.YtnjnooeldkideaaGreatDoorMOrT
import Derived.Test.YtnjnooeldkideaaGreatDoorOrAs
import Derived.Test.YtnjnooeldkideaaGreatDoorCallA
import Derived.OwnWalk
namespace Go.Proofs.YtnjnooeldkideaaGreatDoor
set_option maxRecDepth 100000
set_option maxHeartbeats 8000000
section
set_option linter.unusedVariables false
set_option linter.unusedSimpArgs false
open Go.RowKit Go.Lib Go.Deep
section
variable {W w:World} {J:Nat→Option Obj} {t:Tb} {F:List (Nat × Obj)}
variable {m:Md} {gm n c:Nat} {A:Option Addr} {ns:List ByteArray} {Ln:List (Nat × Obj)}
theorem o_inst_name (tb:Go.Proofs.YtnjnooeldkideaaGreatDoor.TB W J) (ok:m.Ok) (hlive:m.job.live=false) (s:ByteArray) (hs:s.size≤1000000) (hns:Nms A n c ns Ln) (hn:n≤1000) (hLn:∀p∈Ln,p∈F) (hno:Lib.containsS ns (foldB s)=false) (h:St W w J F) (hm:(gm,Obj.cells (m.cells (.slice A n c)) 88 (0,0))∈F):Calls Tryz.prog 69 #[.pointer (some ⟨gm,0,none⟩),.string s] w (OPost W J F (instA m ns s)):=by
 obtain⟨nv,hnv⟩:∃nv,Value.slice A n c=nv:=⟨_,rfl⟩;rw[hnv]at hm;have h1:=h.alloc (.cells Tryz.zeroCells96 96);obtain⟨g,hg⟩:∃g,w.heap.size=g:=⟨_,rfl⟩;rw[hg]at h1
 have mt:∀(v:World) (X:List (Nat × Obj)),St W v J X→(gm,Obj.cells (m.cells nv) 88 (0,0))∈X→v.cell? ⟨gm,80,none⟩=some (.bool m.job.live)∧v.cell? ⟨gm,75,none⟩=some nv∧v.rangeAt gm 0 m.known.cells.toList∧v.cell? ⟨gm,74,none⟩=some (.int .u64 m.known.flo):=fun v X hv hx=>⟨(hv.md ok hx).live,(hv.md ok hx).names,(hv.md ok hx).tb.all,(hv.md ok hx).tb.flo⟩
 have kref:=fun(x:Int) (v:World) (X:List (Nat × Obj)) (hv:St W v J X) (hx:(gm,Obj.cells (m.cells nv) 88 (0,0))∈X)=>o_ref ok x hv hx
 have fin:∀(a:An),instA m ns s=a→∀(v:World) (A':Option Addr) (n' c':Nat) (L' D:List (Nat × Obj)),n'=a.l.length→Row 147 40 (.slice A' n' c') n' (cgs a.l) L'→St W v J (D++(L'++F))→OPost W J F (instA m ns s) (.returned (.agg (a.cells (.slice A' n' c')))) v:=fun a ha v A' n' c' L' D hn' hr' hv=>by
  rw[ha];subst hn';exact⟨A',c',L',rfl,hr',hv.weaken⟩
 rw[←hnv]at mt hm kref
 have hc:instA m ns s=refA m 182:=by unfold instA;rw[if_neg (by rw[hlive];decide),if_pos hno]
 generalize instA m ns s=R at *
 have kf:=fun(v:World) (X:List (Nat × Obj)) (hv:St W v J X)=>za0 tb s (by omega) hv
 have kc:=fun(v:World) (X:List (Nat × Obj)) (hp:∀p∈Ln,p∈X) (hv:St W v J X)=>nm_contains hns (foldB s) hv hp (by omega)
 rw[hno]at kc;obtain⟨m80,-⟩:=mt _ _ h1 (List.mem_cons_of_mem _ hm);rw[hlive]at m80;unfold foldB at kc;have FIN:=za fin;have H1:=za h1;have HC:=za hc;have KREF:=za kref;have MT:=za mt;have HM:=za hm;have KF:=za kf;have KC:=za kc;have HLN:=za hLn;have m75:=(mt _ _ h1 (List.mem_cons_of_mem _ hm)).2.1;clear fin kref mt h1 hm h hc hlive ok kf kc hLn hnv hns hno
 go_enter Tryz.func69,Tryz.ntmps69
 go_wp2_with fail;have HD1:=za H1.out.drew1
 go_region_held3 (fun v=>v.cell? ⟨gm,75,none⟩=some (.slice A n c)) (first|exact(MT.out _ _ HD1.out (List.mem_cons_of_mem _ HM.out)).2.1|exact(MT.out _ _ hfo (List.mem_cons_of_mem _ HM.out)).2.1)
  (first|(go_at_call 34;(with_reducible refine(KF.out _ _ HD1.out).mono ?_);rintro e wf ⟨rfl,hfo⟩;dsimp only)|(go_at_call 95;(with_reducible refine(KC.out _ _ (fun p hp=>List.mem_cons_of_mem _ (HLN.out p hp)) hfo).mono ?_);rintro e wc ⟨rfl,rfl⟩;dsimp only))
 have KX:=za (KREF.out 182 _ _ hfo (List.mem_cons_of_mem _ HM.out));go_wp2_with fail;refine KX.out.mono ?_;rintro e w3 ⟨A',c',L',rfl,hr',h2⟩;have h3:=h2.perm (L':=(g,.cells Tryz.zeroCells96 96 (0,0))::(L'++F)) ze;have rsz:=An.size (a:=refA m 182) zt (.slice A' 0 c');have rai:=yv (a:=refA m 182) zt (.slice A' 0 c');have rao:=An.one (refA m 182) (v:=(.slice A' 0 c')) rfl
 have fx:=fun(v:World) (cs:Array Value) (hv:St W v J ((g,.cells cs 96 (0,0))::(L'++F)))=>FIN.out (refA m 182) HC.out v A' 0 c' L' [(g,.cells cs 96 (0,0))] rfl hr' hv
 obtain⟨Q,hQ⟩:∃Q,(refA m 182).cells (.slice A' 0 c')=Q:=⟨_,rfl⟩;rw[hQ]at rsz rai rao fx ⊢
 have rfit:0+Q.size≤Tryz.zeroCells96.size:=by rw[rsz,zan];omega
 have rmany:zg Tryz.zeroCells96 0 Q.toList=Q:=by rw[zd _ _ (by rw[Array.length_toList,rsz,zan]),Array.toArray_toList]
 have RAI:=za rai;have RAO:=za rao;have RFIT:=za rfit;have RMANY:=za rmany;have FX:=za fx;clear rai rao rfit rmany fx hQ rsz;have H3:=za h3;clear h2 h3 hr' KX
 go_wp2_with (with_reducible refine zc rfl 96 (.tmp 4) (.tmp 24) rfl (g:=g) (off:=0) Q rfl rfl H3.out RFIT.out RAI.out RAO.out ?_;intro w4 h4;refine Hid.out ?_)
 refine za ?_;rw[RMANY.out]at h4;have HZ:=za h4;clear h4 H3;go_wp2_with fail;refine bodyPost_ret (zp rfl _ _ g 96 Q (0,0) _ rfl (HZ.out.own (g,.cells Q 96 (0,0)) (List.mem_cons_self ..)) Tryz.underlying96 (by kernel_rfl) RAI.out) rfl ?_;exact FX.out _ _ HZ.out
end
end

section
set_option linter.unusedVariables false
set_option linter.unusedSimpArgs false
open Go.RowKit Go.Lib Go.Deep
section
variable {W w:World} {J:Nat→Option Obj} {t:Tb} {F:List (Nat × Obj)}
variable {m:Md} {gm n c:Nat} {A:Option Addr} {ns:List ByteArray} {Ln:List (Nat × Obj)}
theorem o_inst_said (tb:Go.Proofs.YtnjnooeldkideaaGreatDoor.TB W J) (ok:m.Ok) (hlive:m.job.live=false) (s:ByteArray) (hs:s.size≤1000000) (hns:Nms A n c ns Ln) (hn:n≤1000) (hLn:∀p∈Ln,p∈F) (hno:Lib.containsS ns (foldB s)=true) (hb0:0≤m.began) (hb1:m.began≤1000000) (h:St W w J F) (hm:(gm,Obj.cells (m.cells (.slice A n c)) 88 (0,0))∈F):Calls Tryz.prog 69 #[.pointer (some ⟨gm,0,none⟩),.string s] w (OPost W J F (instA m ns s)):=by
 obtain⟨nv,hnv⟩:∃nv,Value.slice A n c=nv:=⟨_,rfl⟩;rw[hnv]at hm;have h1:=h.alloc (.cells Tryz.zeroCells96 96);obtain⟨g,hg⟩:∃g,w.heap.size=g:=⟨_,rfl⟩;rw[hg]at h1
 have mt:∀(v:World) (X:List (Nat × Obj)),St W v J X→(gm,Obj.cells (m.cells nv) 88 (0,0))∈X→v.cell? ⟨gm,80,none⟩=some (.bool m.job.live)∧v.cell? ⟨gm,75,none⟩=some nv∧v.rangeAt gm 0 m.known.cells.toList∧v.cell? ⟨gm,74,none⟩=some (.int .u64 m.known.flo):=fun v X hv hx=>⟨(hv.md ok hx).live,(hv.md ok hx).names,(hv.md ok hx).tb.all,(hv.md ok hx).tb.flo⟩
 have kref:=fun(x:Int) (v:World) (X:List (Nat × Obj)) (hv:St W v J X) (hx:(gm,Obj.cells (m.cells nv) 88 (0,0))∈X)=>o_ref ok x hv hx
 have fin:∀(a:An),instA m ns s=a→∀(v:World) (A':Option Addr) (n' c':Nat) (L' D:List (Nat × Obj)),n'=a.l.length→Row 147 40 (.slice A' n' c') n' (cgs a.l) L'→St W v J (D++(L'++F))→OPost W J F (instA m ns s) (.returned (.agg (a.cells (.slice A' n' c')))) v:=fun a ha v A' n' c' L' D hn' hr' hv=>by
  rw[ha];subst hn';exact⟨A',c',L',rfl,hr',hv.weaken⟩
 rw[←hnv]at mt hm kref
 have hc:instA m ns s=if aimT m.known=-1 then refA m 101 else ⟨⟨0,m.began+1,0,0,0,zTb⟩,true,(wipeT m.known).1,⟨m.began+1,1,0,true,aimT m.known,m.known.flo⟩,m.began+1⟩:=by unfold instA;rw[if_neg (by rw[hlive];decide),if_neg (by rw[hno];decide)]
 generalize instA m ns s=R at *
 have kf:=fun(v:World) (X:List (Nat × Obj)) (hv:St W v J X)=>za0 tb s (by omega) hv
 have kc:=fun(v:World) (X:List (Nat × Obj)) (hp:∀p∈Ln,p∈X) (hv:St W v J X)=>nm_contains hns (foldB s) hv hp (by omega)
 rw[hno]at kc;obtain⟨m80,m75,rk,-⟩:=mt _ _ h1 (List.mem_cons_of_mem _ hm);rw[hlive]at m80;unfold foldB at kc;have ti:=z7 ok.known
 have kw:=fun(v:World) (X:List (Nat × Obj)) (hv:St W v J X)=>b_wipe ok.known hv
 have ka:=fun(v:World) (X:List (Nat × Obj)) (hv:St W v J X)=>b_aim ok.known hv
 have ks:=fun(A':Option Addr) (c':Nat) (l:List Cg) (L':List (Nat × Obj)) (x:Int) (hr:Row 147 40 (.slice A' l.length c') l.length (cgs l) L') (v:World) (X:List (Nat × Obj)) (hv:St W v J (L'++X)) (hx:(gm,Obj.cells (m.cells (.slice A n c)) 88 (0,0))∈X)=>o_said ok x hr rfl hv hx
 unfold CPost Tb.val at kw;unfold Tb.val at ka;obtain⟨C,hC⟩:∃b,m.known.cells=b:=⟨_,rfl⟩;rw[hC]at rk ti kw ka mt;have FIN:=za fin;have H1:=za h1;have HC:=za hc;have MT:=za mt;have HM:=za hm;have KF:=za kf;have KC:=za kc;have HLN:=za hLn;have TI:=za ti;have KW:=za kw;have KA:=za ka;have KS:=za ks;clear fin kref mt h1 hm h hc hlive ok kf kc hLn hnv hns hno ti kw ka ks hC rk
 go_enter Tryz.func69,Tryz.ntmps69
 go_wp2_with fail;have HD1:=za H1.out.drew1
 go_region_held3 (fun v=>v.cell? ⟨gm,75,none⟩=some (.slice A n c)) (first|exact(MT.out _ _ HD1.out (List.mem_cons_of_mem _ HM.out)).2.1|exact(MT.out _ _ hfo (List.mem_cons_of_mem _ HM.out)).2.1)
  (first|(go_at_call 34;(with_reducible refine(KF.out _ _ HD1.out).mono ?_);rintro e wf ⟨rfl,hfo⟩;dsimp only)|(go_at_call 95;(with_reducible refine(KC.out _ _ (fun p hp=>List.mem_cons_of_mem _ (HLN.out p hp)) hfo).mono ?_);rintro e wc ⟨rfl,rfl⟩;dsimp only))
 have rk:=(MT.out _ _ hfo (List.mem_cons_of_mem _ HM.out)).2.2.1;have RK:=za rk;have KW2:=za (KW.out _ _ hfo);clear rk KW
 go_wp2_with (with_reducible refine zb 29 rfl (by kernel_rfl) 29 (.tmp 28) rfl gm 0 rfl C _ RK.out Tryz.underlying29 rfl TI.out ?_)
 refine KW2.out.mono ?_;rintro e w3 ⟨A1,c1,L1,rfl,hr1,h3⟩;have KS2:=za (KS.out A1 c1 _ L1 (wipeT m.known).2 hr1 _ _ h3 (List.mem_cons_of_mem _ HM.out));unfold OPost saidA at KS2;clear KS KW2 h3 hr1 H1 HD1 hfo RK
 by_cases ha:aimT m.known=-1
 ·have hw:wipeT m.known=([],101):=by unfold wipeT;rw[if_pos ha]
  rw[hw]at KS2 ⊢
  have hc:R=refA m 101:=by rw[HC.out,if_pos ha]
  rw[if_neg (by decide)]at KS2;clear hw ha HC KA hb0 hb1;go_wp2_with fail;refine KS2.out.mono ?_;rintro e w4 ⟨A2,c2,L2,rfl,hr2,h4⟩;have hr2:Row 147 40 (.slice A2 0 c2) 0 [] L2:=hr2;have h5:=(h4.perm (L':=(g,.cells Tryz.zeroCells96 96 (0,0))::(L2++F)) ze).alloc (.cells Tryz.zeroCells96 96);have rsz:=An.size (a:=refA m 101) zt (.slice A2 0 c2);have rai:=yv (a:=refA m 101) zt (.slice A2 0 c2);have rao:=An.one (refA m 101) (v:=(.slice A2 0 c2)) rfl
  have fx:=fun(v:World) (cs ds:Array Value) (hv:St W v J ((g,.cells cs 96 (0,0))::(w4.heap.size,.cells ds 96 (0,0))::(L2++F)))=>FIN.out (refA m 101) hc v A2 0 c2 L2 [(g,.cells cs 96 (0,0)),(w4.heap.size,.cells ds 96 (0,0))] rfl hr2 hv
  have fq:(refA m 101).cells (.slice A2 0 c2)=(refA m 101).cells (.slice A2 (refA m 101).l.length c2):=rfl;have q0:((refA m 101).cells (.slice A2 0 c2))[0]?=some (.int .i64 101):=rfl;rw[←fq];clear fq;obtain⟨Q,hQ⟩:∃Q,(refA m 101).cells (.slice A2 0 c2)=Q:=⟨_,rfl⟩;rw[hQ]at rsz rai rao fx q0 ⊢
  have rfit:0+Q.size≤Tryz.zeroCells96.size:=by rw[rsz,zan];omega
  have rmany:zg Tryz.zeroCells96 0 Q.toList=Q:=by rw[zd _ _ (by rw[Array.length_toList,rsz,zan]),Array.toArray_toList]
  have RAI:=za rai;have RAO:=za rao;have RFIT:=za rfit;have RMANY:=za rmany;have FX:=za fx;clear rai rao rfit rmany fx hQ rsz;have H5:=za h5;have Q0:=za q0;clear h4 h5 hr2 KS2 hc FIN q0
  go_wp2_with (with_reducible refine zc rfl 96 (.tmp 5) (.tmp 33) rfl (g:=w4.heap.size) (off:=0) Q rfl rfl H5.out RFIT.out RAI.out RAO.out ?_;intro w5 h5;refine Hid.out ?_)
  refine za ?_;rw[RMANY.out]at h5;obtain⟨g5,hg5⟩:∃y,w4.heap.size=y:=⟨_,rfl⟩;rw[hg5]at h5 FX ⊢;have l0:=(h5.cell (g:=g5) (cs:=Q) (t:=96) (fr:=(0,0)) (List.mem_cons_self ..) 0).trans Q0.out;have R6:Hid (w5.rangeAt g5 0 Q.toList):=za (fun j u hj=>by rw[Nat.zero_add,h5.cell (g:=g5) (cs:=Q) (t:=96) (fr:=(0,0)) (List.mem_cons_self ..) j];simpa using hj);have h6:=h5.perm (L':=(g,.cells Tryz.zeroCells96 96 (0,0))::(g5,.cells Q 96 (0,0))::(L2++F)) ze;have H6:=za h6;clear h5 h6 H5 hg5
  go_wp2_with (first|(with_reducible refine zb 60 rfl (by kernel_rfl) 96 (.tmp 5) rfl g5 0 rfl Q _ R6.out Tryz.underlying96 rfl RAI.out ?_)|(with_reducible refine zc rfl 96 (.tmp 4) (.tmp 60) rfl (g:=g) (off:=0) Q rfl rfl H6.out RFIT.out RAI.out RAO.out ?_;intro w8 h8;refine Hid.out ?_))
  refine za ?_;rw[RMANY.out]at h8;have HZ:=za h8;clear h8 H6 R6;go_wp2_with fail;refine bodyPost_ret (zp rfl _ _ g 96 Q (0,0) _ rfl (HZ.out.own (g,.cells Q 96 (0,0)) (List.mem_cons_self ..)) Tryz.underlying96 (by kernel_rfl) RAI.out) rfl ?_;exact FX.out _ _ _ HZ.out
 ·obtain⟨l,hl⟩:∃l,(wipeT m.known).1=l:=⟨_,rfl⟩
  have hw:wipeT m.known=(l,0):=by rw[←hl];unfold wipeT;rw[if_neg ha]
  have hc:R=⟨⟨0,m.began+1,0,0,0,zTb⟩,true,l,⟨m.began+1,1,0,true,aimT m.known,m.known.flo⟩,m.began+1⟩:=by rw[HC.out,if_neg ha,hl]
  rw[hw]at KS2 ⊢;rw[if_pos rfl]at KS2;clear hl hw ha HC;go_wp2_with fail;refine KS2.out.mono ?_;rintro e w4 ⟨A2,c2,L2,rfl,hr2,h4⟩;have h5:=(h4.perm (L':=(g,.cells Tryz.zeroCells96 96 (0,0))::(L2++F)) ze).alloc (.cells Tryz.zeroCells96 96);obtain⟨v,hv⟩:∃v,Value.slice A2 (okA m l).l.length c2=v:=⟨_,rfl⟩;obtain⟨B,hB⟩:∃B,m.began+1=B:=⟨_,rfl⟩;obtain⟨AM,hAM⟩:∃B,aimT m.known=B:=⟨_,rfl⟩;obtain⟨FL,hFL⟩:∃B,m.known.flo=B:=⟨_,rfl⟩
  have hv1:v.oneCell'=true:=by rw[←hv];rfl
  rw[hB,hAM,hFL]at hc;rw[hAM]at KA;rw[hFL]at MT;rw[hv];have rsz:=An.size (a:=okA m l) zt v;have rai:=yv (a:=okA m l) zt v;have rao:=An.one (okA m l) (v:=v) hv1;have q0:((okA m l).cells v)[0]?=some (.int .i64 0):=rfl;have q88:((okA m l).cells v)[88]?=some (.int .i64 m.began):=An.g80 (a:=okA m l) zt v 8;have p1:=put_began (okA m l) zt v B;have z88:((({ okA m l with began:=B }:An)).cells v)[88]?=some (.int .i64 B):=An.g80 (a:={ okA m l with began:=B }) zt v 8;have p2:=put_rjob ({ okA m l with began:=B }:An) zt v B;have y88:(({ ({ okA m l with began:=B }:An) with rep:={ ({ okA m l with began:=B }:An).rep with job:=B } }:An).cells v)[88]?=some (.int .i64 B):=An.g80 (a:={ ({ okA m l with began:=B }:An) with rep:={ ({ okA m l with began:=B }:An).rep with job:=B } }) zt v 8;have p3:=put_job ({ ({ okA m l with began:=B }:An) with rep:={ ({ okA m l with began:=B }:An).rep with job:=B } }:An) zt v ⟨B,1,0,true,AM,FL⟩;have p4:(({ ({ ({ okA m l with began:=B }:An) with rep:={ ({ okA m l with began:=B }:An).rep with job:=B } }:An) with job:=⟨B,1,0,true,AM,FL⟩ }:An)).cells v=(⟨⟨0,B,0,0,0,zTb⟩,true,l,⟨B,1,0,true,AM,FL⟩,B⟩:An).cells v:=rfl;rw[p4]at p3;rw[←p2,←p1]at p3 y88;rw[←p1]at z88;have fsz:=An.size (a:=(⟨⟨0,B,0,0,0,zTb⟩,true,l,⟨B,1,0,true,AM,FL⟩,B⟩:An)) zt v;have fai:=yv (a:=(⟨⟨0,B,0,0,0,zTb⟩,true,l,⟨B,1,0,true,AM,FL⟩,B⟩:An)) zt v;have fao:=An.one (⟨⟨0,B,0,0,0,zTb⟩,true,l,⟨B,1,0,true,AM,FL⟩,B⟩:An) (v:=v) hv1
  have fx:=fun(u:World) (cs ds:Array Value) (hu:St W u J ((g,.cells cs 96 (0,0))::(w4.heap.size,.cells ds 96 (0,0))::(L2++F)))=>FIN.out _ hc u A2 l.length c2 L2 [(g,.cells cs 96 (0,0)),(w4.heap.size,.cells ds 96 (0,0))] rfl hr2 hu
  rw[show Value.slice A2 l.length c2=v from hv]at fx;obtain⟨Q,hQ⟩:∃Q,(okA m l).cells v=Q:=⟨_,rfl⟩;obtain⟨Z,hZ⟩:∃Q,(⟨⟨0,B,0,0,0,zTb⟩,true,l,⟨B,1,0,true,AM,FL⟩,B⟩:An).cells v=Q:=⟨_,rfl⟩;rw[hQ]at rsz rai rao q0 q88 p3 y88 z88 ⊢;have x88:((⟨⟨0,B,0,0,0,zTb⟩,true,l,⟨B,1,0,true,AM,FL⟩,B⟩:An).cells v)[88]?=some (.int .i64 B):=An.g80 (a:=(⟨⟨0,B,0,0,0,zTb⟩,true,l,⟨B,1,0,true,AM,FL⟩,B⟩:An)) zt v 8;rw[hZ]at p3 fsz fai fao fx x88;have Z8:=za x88;clear x88
  have qfit:0+Q.size≤Tryz.zeroCells96.size:=by rw[rsz,zan];omega
  have qmany:zg Tryz.zeroCells96 0 Q.toList=Q:=by rw[zd _ _ (by rw[Array.length_toList,rsz,zan]),Array.toArray_toList]
  have zfit:0+Z.size≤Tryz.zeroCells96.size:=by rw[fsz,zan];omega
  have zmany:zg Tryz.zeroCells96 0 Z.toList=Z:=by rw[zd _ _ (by rw[Array.length_toList,fsz,zan]),Array.toArray_toList]
  have l88:88 < Q.size:=by rw[rsz];omega
  have l1:1 < (zg Q 88 [.int .i64 B]).size:=by rw[yd,rsz];omega
  have l82:82+(⟨B,1,0,true,AM,FL⟩:Jb).list.toArray.size≤(zg (zg Q 88 [.int .i64 B]) 1 [.int .i64 B]).size:=by rw[yd,yd,rsz];show 82+6≤89;omega
  have I2:Hid ((Tryz.prog.info? 3).map (·.size)=some 1):=za (by kernel_rfl);have HJI:Hid ((Tryz.prog.info? 86).map (·.size)=some (⟨B,1,0,true,AM,FL⟩:Jb).list.toArray.size):=za (by kernel_rfl);have HJO:Hid ((⟨B,1,0,true,AM,FL⟩:Jb).list.toArray.all (·.oneCell')=true):=za (by kernel_rfl);have ZFIT:=za zfit;have ZMANY:=za zmany;have ZAI:=za fai;have ZAO:=za fao;have FX:=za fx;have QFIT:=za qfit;have QMANY:=za qmany;have QAI:=za rai;have QAO:=za rao;have H5:=za h5;have Q0:=za q0;have Q88:=za q88;have Z88:=za z88;have Y88:=za y88;have P3:=za p3;have L88:=za l88;have L1:=za l1;have L82:=za l82;have HBB:=za hB;clear h4 h5 hr2 KS2 hc FIN q0 q88 z88 y88 p1 p2 p3 p4 l88 l1 l82 zfit zmany fai fao fx fsz qfit qmany rai rao rsz hQ hZ hv hv1 hB hAM hFL
  go_wp2_with (with_reducible refine zc rfl 96 (.tmp 5) (.tmp 33) rfl (g:=w4.heap.size) (off:=0) Q rfl rfl H5.out QFIT.out QAI.out QAO.out ?_;intro w5 h5;refine Hid.out ?_)
  refine za ?_;rw[QMANY.out]at h5;obtain⟨g5,hg5⟩:∃y,w4.heap.size=y:=⟨_,rfl⟩;rw[hg5]at h5 FX ⊢;have l0:=(h5.cell (g:=g5) (cs:=Q) (t:=96) (fr:=(0,0)) (List.mem_cons_self ..) 0).trans Q0.out;have l88:=(h5.cell (g:=g5) (cs:=Q) (t:=96) (fr:=(0,0)) (List.mem_cons_self ..) 88).trans Q88.out;have H6:=za h5;clear h5 H5 hg5
  go_wp2_with (with_reducible refine zk rfl 3 (.tmp 41) (.tmp 40) rfl (g:=g5) (off:=88) (.int .i64 (m.began+1)) rfl rfl rfl H6.out L88.out I2.out rfl ?_;intro w6 h6;refine Hid.out ?_)
  refine za ?_;rw[HBB.out]at h6 ⊢;have l89:=(h6.cell (g:=g5) (t:=96) (fr:=(0,0)) (List.mem_cons_self ..) 88).trans Z88.out;have H7:=za h6;clear h6 H6 l88 l0
  go_wp2_with (with_reducible refine zk rfl 3 (.tmp 45) (.tmp 43) rfl (g:=g5) (off:=1) (.int .i64 B) rfl rfl rfl H7.out L1.out I2.out rfl ?_;intro w7 h7;refine Hid.out ?_)
  refine za ?_;have l90:=(h7.cell (g:=g5) (t:=96) (fr:=(0,0)) (List.mem_cons_self ..) 88).trans Y88.out
  have fs:=fun(v:World) (X:List (Nat × Obj)) (Y:Array Value) (hY:Y[88]?=some (.int .i64 B)) (hv:St W v J X) (h1:(g5,Obj.cells Y 96 (0,0))∈X) (h2:(gm,Obj.cells (m.cells (.slice A n c)) 88 (0,0))∈X)=>(⟨(hv.cell h1 88).trans hY,(MT.out _ _ hv h2).2.2.1,(MT.out _ _ hv h2).2.2.2⟩:v.cell? ⟨g5,88,none⟩=some (.int .i64 B)∧v.rangeAt gm 0 C.toList∧v.cell? ⟨gm,74,none⟩=some (.int .u64 FL))
  have s1:=fs _ _ _ Y88.out h7.drew1 (List.mem_cons_self ..) (by simp[HM.out]);have MX:=za (show ∀(Y:Array Value),(gm,Obj.cells (m.cells (.slice A n c)) 88 (0,0))∈(g5,Obj.cells Y 96 (0,0))::(g,.cells Tryz.zeroCells96 96 (0,0))::(L2++F) from fun Y=>by simp[HM.out]);have HDW:=za h7.drew1;have FSx:=za fs;have HUT:=za Tryz.underlying29;have hjb:(⟨B,1,0,true,AM,FL⟩:Jb).list.toArray=#[.int .i64 B,.int .i64 1,.int .i64 0,.bool true,.int .i64 AM,.int .u64 FL]:=rfl;have HJB:=za hjb;clear h7 H7 l89 fs hjb l90;go_wp2_with fail;refine wp_region_held_drew (S:=fun v=>v.cell? ⟨g5,88,none⟩=some (.int .i64 B)∧v.rangeAt gm 0 C.toList∧v.cell? ⟨gm,74,none⟩=some (.int .u64 FL)) (by kernel_rfl) s1 (fun hHeld=>?_)
  refine tk op0 (v:=?_) (by kernel_rfl) ?_ (by assumption) ?_ fun _ _ _ h=>h
  rotate_left
  ·(refine ya rfl fun w hSw=>?_;go_simp;rfl)
  try simp only[Act.put,pu1,pu2,pu3]
  refine tk op1 (v:=?_) (by kernel_rfl) ?_ (by assumption) ?_ fun _ _ _ h=>h
  rotate_left
  ·((refine Or.inl ⟨by rfl,?_⟩;intro w hSw;obtain⟨hS1,hS2,hS3⟩:=hSw;go_simp;try with_reducible rfl))
  try simp only[Act.put,pu1,pu2,pu3]
  refine tk op2 (v:=?_) (by kernel_rfl) ?_ (by assumption) ?_ fun _ _ _ h=>h
  rotate_left
  ·(refine ya rfl fun w hSw=>?_;go_simp;rfl)
  try simp only[Act.put,pu1,pu2,pu3]
  refine tk op3 (v:=?_) (by kernel_rfl) ?_ (by assumption) ?_ fun _ _ _ h=>h
  rotate_left
  ·(refine ya rfl fun w hSw=>?_;go_simp;rfl)
  try simp only[Act.put,pu1,pu2,pu3]
  refine tk op4 (v:=?_) (by kernel_rfl) ?_ (by assumption) ?_ fun _ _ _ h=>h
  rotate_left
  ·(refine ya rfl fun w hSw=>?_;go_simp;rfl)
  try simp only[Act.put,pu1,pu2,pu3]
  refine tk op5 (v:=?_) (by kernel_rfl) ?_ (by assumption) ?_ fun _ _ _ h=>h
  rotate_left
  ·(((refine yieldsIf_load_mid ?_ 29 (.tmp 50) ?_ gm 0 ?_ C.toList _ ?_ HUT.out ?_ TI.out)<;>first|rfl|exact fun w h=>h.2.1))
  try simp only[Act.put,pu1,pu2,pu3]
  refine tk op7 (v:=?_) (by kernel_rfl) ?_ (by assumption) ?_ fun _ _ _ h=>h
  rotate_left
  ·(refine ya rfl fun w hSw=>?_;go_simp;rfl)
  try simp only[Act.put,pu1,pu2,pu3]
  refine tk op8 (v:=?_) (by kernel_rfl) ?_ (by assumption) ?_ fun _ _ _ h=>h
  rotate_left
  ·(refine ya rfl fun w hSw=>?_;go_simp;rfl)
  try simp only[Act.put,pu1,pu2,pu3]
  refine tk op9 (v:=?_) (by kernel_rfl) ?_ (by assumption) ?_ fun _ _ _ h=>h
  rotate_left
  ·(refine ya rfl fun w hSw=>?_;go_simp;rfl)
  try simp only[Act.put,pu1,pu2,pu3]
  refine tk (oq op0) (v:=?_) (by kernel_rfl) ?_ (by assumption) ?_ fun _ _ _ h=>h
  rotate_left
  ·(refine ya rfl fun w hSw=>?_;go_simp;rfl)
  try simp only[Act.put,pu1,pu2,pu3]
  refine tk (oq op1) (v:=?_) (by kernel_rfl) ?_ (by assumption) ?_ fun _ _ _ h=>h
  rotate_left
  ·((refine Or.inl ⟨by rfl,?_⟩;intro w hSw;obtain⟨hS1,hS2,hS3⟩:=hSw;go_simp;try with_reducible rfl))
  try simp only[Act.put,pu1,pu2,pu3]
  refine rd1 op6 (by kernel_rfl) fun K hK=>?_
  go_simp
  ((go_at_call 97;(with_reducible refine(KA.out _ _ HDW.out).mono ?_);rintro e wx ⟨rfl,hx⟩;dsimp only))
  refine hK.out _ _ ?_ fun hHeld=>?_
  ·(try dsimp only)<;>((exact FSx.out _ _ _ Y88.out hx (List.mem_cons_self ..) (MX.out _)))
  clear hK K
  try simp only[Act.put,pu1,pu2,pu3]
  refine tk (oq op2) (v:=?_) (by kernel_rfl) ?_ (by assumption) ?_ fun _ _ _ h=>h
  rotate_left
  ·(refine ya rfl fun w hSw=>?_;go_simp;rfl)
  try simp only[Act.put,pu1,pu2,pu3]
  refine tk (oq op3) (v:=?_) (by kernel_rfl) ?_ (by assumption) ?_ fun _ _ _ h=>h
  rotate_left
  ·(refine ya rfl fun w hSw=>?_;go_simp;rfl)
  try simp only[Act.put,pu1,pu2,pu3]
  refine rd1 (oq op4) (by kernel_rfl) fun K hK=>?_
  ((refine zq rfl 86 (.tmp 59) (.tmp 58) rfl (g:=g5) (off:=82) (⟨B,1,0,true,AM,FL⟩:Jb).list.toArray rfl rfl hx L82.out HJI.out HJO.out ?_;intro wf hf;rw[show zg (zg (zg Q 88 [.int .i64 B]) 1 [.int .i64 B]) 82 (⟨B,1,0,true,AM,FL⟩:Jb).list.toArray.toList=Z from P3.out]at hf;dsimp only))
  refine hK.out _ _ ?_ fun hHeld=>?_
  ·(try dsimp only)<;>((exact FSx.out _ _ _ Z8.out hf (List.mem_cons_self ..) (MX.out _)))
  clear hK K
  try simp only[Act.put,pu1,pu2,pu3]
  refine wpAnyH_done (by kernel_rfl) ?_ _;have HB:=za hf;clear hf HDW hx s1;have R6:Hid (wf.rangeAt g5 0 Z.toList):=za (fun j u hj=>by rw[Nat.zero_add,HB.out.cell (g:=g5) (cs:=Z) (t:=96) (fr:=(0,0)) (List.mem_cons_self ..) j];simpa using hj);have h9:=HB.out.perm (L':=(g,.cells Tryz.zeroCells96 96 (0,0))::(g5,.cells Z 96 (0,0))::(L2++F)) ze;have H9:=za h9;clear h9 HB
  go_wp2_with (first|(with_reducible refine zb 60 rfl (by kernel_rfl) 96 (.tmp 5) rfl g5 0 rfl Z _ R6.out Tryz.underlying96 rfl ZAI.out ?_)|(with_reducible refine zc rfl 96 (.tmp 4) (.tmp 60) rfl (g:=g) (off:=0) Z rfl rfl H9.out ZFIT.out ZAI.out ZAO.out ?_;intro w8 h8;refine Hid.out ?_))
  refine za ?_;rw[ZMANY.out]at h8;have HZ:=za h8;clear h8 H9 R6;go_wp2_with fail;refine bodyPost_ret (zp rfl _ _ g 96 Z (0,0) _ rfl (HZ.out.own (g,.cells Z 96 (0,0)) (List.mem_cons_self ..)) Tryz.underlying96 (by kernel_rfl) ZAI.out) rfl ?_;exact FX.out _ _ _ HZ.out
end
end

section
set_option linter.unusedVariables false
set_option linter.unusedSimpArgs false
open Go.RowKit Go.Lib Go.Deep
section
variable {W w:World} {J:Nat→Option Obj} {t:Tb} {F:List (Nat × Obj)}
variable {m:Md} {gm n c:Nat} {A:Option Addr} {ns:List ByteArray} {Ln:List (Nat × Obj)}
def askA (m:Md) (ns:List ByteArray) (q:Cl):An:=
 if q.kind=1 then instA m ns q.name else if q.kind=2 then cancA m q.job else if q.kind=4 then saidA m (goodT m.known q.slot).1 (goodT m.known q.slot).2
 else if q.kind=5 then (if (m.job.live&&q.slot==m.job.slot)=true then refA m 251 else saidA m (badT m.known q.slot).1 (badT m.known q.slot).2)
 else if q.kind=6 then rebA m else statA m
structure MOk (J:Nat→Option Obj) (m:Md) (ns:List ByteArray) (A:Option Addr) (n c:Nat) (Ln:List (Nat × Obj)):Prop where
 ok:m.Ok
 b0:0≤m.began
 b1:m.began≤1000000
 names:Nms A n c ns Ln
 few:n≤1000
theorem o_install (tb:Go.Proofs.YtnjnooeldkideaaGreatDoor.TB W J) (mo:MOk J m ns A n c Ln) (s:ByteArray) (hs:s.size≤1000000) (hLn:∀p∈Ln,p∈F) (h:St W w J F) (hm:(gm,Obj.cells (m.cells (.slice A n c)) 88 (0,0))∈F):Calls Tryz.prog 69 #[.pointer (some ⟨gm,0,none⟩),.string s] w (OPost W J F (instA m ns s)):=by
 cases hl:m.job.live with
 | true=>exact o_inst_busy mo.ok hl s h hm
 | false=>
  cases hk:Lib.containsS ns (foldB s) with
  | false=>exact o_inst_name tb mo.ok hl s hs mo.names mo.few hLn hk h hm
  | true=>exact o_inst_said tb mo.ok hl s hs mo.names mo.few hLn hk mo.b0 mo.b1 h hm
theorem instA_tok (ok:m.Ok) (s:ByteArray):(instA m ns s).rep.t.Ok:=by
 unfold instA
 repeat' split
 all_goals exact zt
theorem cancA_tok (x:Int):(cancA m x).rep.t.Ok:=by
 unfold cancA
 split
 all_goals exact zt
theorem rebA_tok:(rebA m).rep.t.Ok:=by
 unfold rebA
 repeat' split
 all_goals exact zt
theorem o_ask (tb:Go.Proofs.YtnjnooeldkideaaGreatDoor.TB W J) (mo:MOk J m ns A n c Ln) (q:Cl) (hs:q.name.size≤1000000) (hLn:∀p∈Ln,p∈F) (h:St W w J F) (hm:(gm,Obj.cells (m.cells (.slice A n c)) 88 (0,0))∈F):Calls Tryz.prog 41 #[.pointer (some ⟨gm,0,none⟩),q.val] w (OPost W J F (askA m ns q)):=by
 unfold askA
 by_cases h1:q.kind=1
 ·rw[if_pos h1]
  exact o_ask1 mo.ok q h hm h1 _ (instA_tok mo.ok _) (fun v X hv hx hF=>o_install tb mo q.name hs (fun p hp=>hF p (hLn p hp)) hv hx)
 ·rw[if_neg h1]
  by_cases h2:q.kind=2
  ·rw[if_pos h2]
   exact o_ask2 mo.ok q h hm h2 _ (cancA_tok _) (fun v X hv hx=>o_cancel mo.ok q.job hv hx)
  ·rw[if_neg h2]
   by_cases h4:q.kind=4
   ·rw[if_pos h4]
    exact o_ask4 mo.ok q h hm h4
   ·rw[if_neg h4]
    by_cases h5:q.kind=5
    ·rw[if_pos h5]
     by_cases hb:(m.job.live&&q.slot==m.job.slot)=true
     ·rw[if_pos hb]
      rw[Bool.and_eq_true,beq_iff_eq]at hb;exact o_ask5b mo.ok q h hm h5 hb.1 hb.2 _ zt (fun v X hv hx=>zaw mo.ok 251 hv hx)
     ·rw[if_neg hb]
      exact o_ask5 mo.ok q h hm h5 (by simpa using hb)
    ·rw[if_neg h5]
     by_cases h6:q.kind=6
     ·rw[if_pos h6]
      exact o_ask6 mo.ok q h hm h6 _ rebA_tok (fun v X hv hx=>o_reboot mo.ok hv hx)
     ·rw[if_neg h6]
      exact o_ask3 mo.ok q h hm (by simpa using h1) (by simpa using h2) (by simpa using h4) (by simpa using h5) (by simpa using h6)
structure An.Good (a:An):Prop where
 rep:a.rep.Ok
 job:a.job.Ok
 b0:0≤a.began
 b1:a.began≤1000001
 form:∀x∈a.l,FormC x
 few:a.l.length≤8
theorem ui {e j s l f:Int} {t:Tb} (h1:-9223372036854775808≤e) (h2:e≤9223372036854775807) (h3:-9223372036854775808≤j) (h4:j≤9223372036854775807) (h5:-9223372036854775808≤s) (h6:s≤9223372036854775807) (h7:-9223372036854775808≤l) (h8:l≤9223372036854775807) (h9:-9223372036854775808≤f) (h10:f≤9223372036854775807) (ht:t.Ok):(⟨e,j,s,l,f,t⟩:Ry).Ok:=⟨h1,h2,h3,h4,h5,h6,h7,h8,h9,h10,ht⟩
theorem ql {j s f l o:Int} {b:Bool} (h1:-9223372036854775808≤j) (h2:j≤9223372036854775807) (h3:-9223372036854775808≤s) (h4:s≤9223372036854775807) (h5:-9223372036854775808≤f) (h6:f≤9223372036854775807) (h7:-9223372036854775808≤l) (h8:l≤9223372036854775807) (h9:0≤o) (h10:o≤18446744073709551615):(⟨j,s,f,b,l,o⟩:Jb).Ok:=⟨h1,h2,h3,h4,h5,h6,h7,h8,h9,h10⟩
theorem qm {r:Ry} {k:Bool} {l:List Cg} {j:Jb} {b:Int} (h1:r.Ok) (h2:j.Ok) (h3:0≤b) (h4:b≤1000001) (h5:∀x∈l,FormC x) (h6:l.length≤8):(⟨r,k,l,j,b⟩:An).Good:=⟨h1,h2,h3,h4,h5,h6⟩
theorem jx (e:Int) (h0:-9223372036854775808≤e) (h1:e≤9223372036854775807):(⟨e,0,0,0,0,zTb⟩:Ry).Ok:=ui h0 h1 (by omega) (by omega) (by omega) (by omega) (by omega) (by omega) (by omega) (by omega) zt
theorem zJ_ok:zJ.Ok:=⟨by decide,by decide,by decide,by decide,by decide,by decide,by decide,by decide,by decide,by decide⟩
theorem zav (ok:m.Ok) (h0:0≤m.began) (h1:m.began≤1000000) (e:Int) (he0:-9223372036854775808≤e) (he1:e≤9223372036854775807):(refA m e).Good:=
 qm (jx e he0 he1) ok.job h0 (by omega) (fun x hx=>(by cases hx)) (by simp)
theorem goodS_err (s:Slt):(goodS s).2=0∨(goodS s).2=101:=by
 unfold goodS
 repeat' split
 all_goals simp
theorem badS_err (s:Slt):(badS s).2=0∨(badS s).2=101:=by
 unfold badS
 repeat' split
 all_goals simp
theorem goodT_err (t:Tb) (i:Int):(goodT t i).2=0∨(goodT t i).2=101:=by
 unfold goodT
 rcases goodS_err (t.at_ i) with h|h<;>rw[h]<;>repeat' split
 all_goals simp
theorem badT_err (t:Tb) (i:Int):(badT t i).2=0∨(badT t i).2=101∨(badT t i).2=122:=by
 unfold badT
 rcases badS_err (t.at_ i) with h|h<;>rw[h]<;>repeat' split
 all_goals simp
theorem saidA_good (ok:m.Ok) (h0:0≤m.began) (h1:m.began≤1000000) (l:List Cg) (x:Int) (hx0:-9223372036854775808≤x) (hx1:x≤9223372036854775807) (hl:(∀y∈l,FormC y)∧l.length≤8):(saidA m l x).Good:=by
 unfold saidA
 split
 ·exact qm (jx 0 (by decide) (by decide)) ok.job h0 (by omega) hl.1 hl.2
 ·exact zav ok h0 h1 x hx0 hx1
theorem ue (t:Tb):-1≤aimT t∧aimT t≤1:=by
 unfold aimT
 split
 ·rename_i h
  have:=jp h.1
  omega
 ·omega
theorem u5 (t:Tb):-1≤(planT t).1∧(planT t).1≤1:=by
 unfold planT
 split
 ·rename_i h
  have:=u3 h.1;simp only
  omega
 ·simp only
  omega
theorem askA_goodX (ok:m.Ok) (h0:0≤m.began) (h1:m.began≤1000000) (ns:List ByteArray) (q:Cl) (qok:q.Ok):(askA m ns q).Good:=by
 have g:=fun(e:Int) he0 he1=>zav ok h0 h1 e he0 he1
 have fg:=ux ok.known q.slot qok.s0 qok.s1;have fb:=zae ok.known q.slot qok.s0 qok.s1;have fw:=zad ok.known;have fp:=uw ok.known;have ra:=ue m.known;have rp:=u5 m.known;have eg:=goodT_err m.known q.slot;have eb:=badT_err m.known q.slot;have f0:=ok.known.f0;have f1:=ok.known.f1;unfold askA
 repeat' split
 ·unfold instA
  repeat' split
  ·exact g _ (by decide) (by decide)
  ·exact g _ (by decide) (by decide)
  ·exact g _ (by decide) (by decide)
  ·exact qm (ui (by omega) (by omega) (by omega) (by omega) (by omega) (by omega) (by omega) (by omega) (by omega) (by omega) zt) (ql (by omega) (by omega) (by omega) (by omega) (by omega) (by omega) (by omega) (by omega) f0 f1) (by omega) (by omega) fw.1 fw.2
 ·unfold cancA
  split
  ·exact g _ (by decide) (by decide)
  ·exact qm (l:=[]) (b:=m.began) (jx 0 (by decide) (by decide)) (ql ok.job.n0 ok.job.n1 (by omega) (by omega) ok.job.e0 ok.job.e1 ok.job.l0 ok.job.l1 ok.job.f0 ok.job.f1) h0 (by omega) (fun x hx=>(by cases hx)) (by simp)
 ·exact saidA_good ok h0 h1 _ _ (by omega) (by omega) fg
 ·exact g _ (by decide) (by decide)
 ·exact saidA_good ok h0 h1 _ _ (by omega) (by omega) fb
 ·unfold rebA
  repeat' split
  ·exact g _ (by decide) (by decide)
  ·exact g _ (by decide) (by decide)
  ·exact qm (ui (by omega) (by omega) (by omega) (by omega) (by omega) (by omega) (by omega) (by omega) (by omega) (by omega) zt) zJ_ok h0 (by omega) fp.1 fp.2
 ·exact qm (ui (by omega) (by omega) ok.job.n0 ok.job.n1 ok.job.t0 ok.job.t1 (by omega) (by omega) ok.job.e0 ok.job.e1 ok.known) ok.job h0 (by omega) (fun x hx=>(by cases hx)) (by simp)
theorem zbn (mo:MOk J m ns A n c Ln) (q:Cl) (qok:q.Ok):(askA m ns q).Good:=askA_goodX mo.ok mo.b0 mo.b1 ns q qok
theorem uv (ok:m.Ok) (h0:0≤m.began) (h1:m.began≤1000000) {a:An} (ha:a.Good) (x:Int) (hx0:-9223372036854775808≤x) (hx1:x≤9223372036854775807):(storedA m a x).1.Good:=by
 unfold storedA
 repeat' split
 ·exact qm (jx 0 (by decide) (by decide)) zJ_ok (by omega) (by omega) (fun x hx=>(by cases hx)) (by simp)
 ·exact zav ok h0 h1 x hx0 hx1
 ·exact ha
end
end
end Go.Proofs.YtnjnooeldkideaaGreatDoor
