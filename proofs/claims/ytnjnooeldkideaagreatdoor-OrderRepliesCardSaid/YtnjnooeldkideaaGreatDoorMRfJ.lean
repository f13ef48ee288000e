/- order: the document's install, behind all its refusals. The document's Right for calls: walk. -/
import Derived.Test.YtnjnooeldkideaaGreatDoorRfI
import Derived.Test.YtnjnooeldkideaaGreatDoorCallA
import Derived.Test.YtnjnooeldkideaaGreatDoorMRname
namespace Go.Proofs.YtnjnooeldkideaaGreatDoor
set_option maxRecDepth 100000
set_option maxHeartbeats 16000000
section
set_option linter.unusedVariables false
set_option linter.unusedSimpArgs false
open Go.RowKit Go.Lib Go.Deep
section
variable {W w:World} {J:Nat→Option Obj} {t:Tb} {F:List (Nat × Obj)}
variable {m:Md} {nv:Value} {ns:List ByteArray} {Ln:List (Nat × Obj)}
theorem jj (ok:m.known.Ok):(stC m nv).size=84:=by
 unfold stC;rw[List.size_toArray,List.length_append,Array.length_toList,Tb.size ok]
 rfl
theorem u2 {m':Md} {cs:List Cg} {r:Ry} {store:Int} (ok:m.Ok) (ok':m'.Ok) (hf:∀c∈cs,FormC c) (rk:r.t.Ok):(keepM m m' cs r store).1.Ok∧(keepM m m' cs r store).2.t.Ok:=by
 unfold keepM
 split
 ·exact⟨⟨qa ok.known hf,ok'.2,ok'.3,ok'.4,ok'.5,ok'.6⟩,rk⟩
 ·exact⟨ok,zt⟩
theorem run_build_rjob (b:Int) (w:World):(Instr.build 52 #[(1,.int .i64 b)]).run Tryz.prog w=.ok (.agg (⟨0,b,0,0,0,zTb⟩:Ry).cells) w:=run_build w _ _ _ (by kernel_rfl)
theorem rfi_keep {A:Option Addr} (tb:Go.Proofs.YtnjnooeldkideaaGreatDoor.TB W J) (x:ByteArray) (hx:x.size≤1000000) (c:Nat) (ok:m.Ok) (hrd:Rd W J Ln 1 A (y2 ns)) (hn:ns.length≤1000) (hsz:∀s∈ns,s.size≤1000000) (hL:∀p∈Ln,p∈F) (store:Int) (h:St W w J F) (b0:0≤m.began) (b1:m.began≤1000000) (hlv:m.job.live=false) (hno:hasB ns (foldB x)=true) (hw:(wipeT m.known).2=0):Calls Tryz.prog 44 #[.agg (stC m (.slice A ns.length c)),.string x,.int .i64 store] w (DPost W J F (.slice A ns.length c) (keepD m (nextI m) (wipeT m.known).1 ⟨0,m.began+1,0,0,0,zTb⟩ store)):=by
 unfold DPost keepD;dsimp only
 have b0':(-9223372036854775808:Int)≤m.began+1:=by omega
 have b1':m.began+1≤(9223372036854775807:Int):=by omega
 have q0:=(ue m.known).1;have q1:=(ue m.known).2;have nok:(nextI m).Ok:=⟨ok.known,ok.t0,ok.t1,ql b0' b1' (by decide) (by decide) (by decide) (by decide) (by omega) (by omega) ok.known.f0 ok.known.f1,b0',b1'⟩
 have kh:=fun(v:World) (X:List (Nat × Obj)) (hp:∀p∈Ln,p∈X) (hv:St W v J X)=>r26_has tb x hx c ok hrd hn hsz hp hv
 have h1:=((h.alloc (.cells (stC m (.slice A ns.length c)) 47)).alloc (.cells Tryz.zeroCells47 47)).alloc (.cells Tryz.zeroCells52 52);obtain⟨g,hg⟩:∃g,w.heap.size=g:=⟨_,rfl⟩;simp only[World.size_alloc,hg,Nat.add_assoc,Nat.reduceAdd]at h1;have s0:=zy (nv:=(.slice A ns.length c)) ok;have i0:=zz (nv:=(.slice A ns.length c)) ok;have o0:=ye (m:=m) (nv:=(.slice A ns.length c)) rfl
 have st:=fun(v:World) (X:List (Nat × Obj)) (hv:St W v J X) (hm:(g,Obj.cells (stC m (.slice A ns.length c)) 47 (0,0))∈X)=>(⟨(hv.stt ok hm).all,(hv.stt ok hm).live,(hv.stt ok hm).known,(hv.cell hm 74).trans ((stC_t ok 74 (by omega)).trans (Tb.gt ok.known 2))⟩:v.rangeAt g 0 (stC m (.slice A ns.length c)).toList∧v.cell? ⟨g,81,none⟩=some (.bool m.job.live)∧v.rangeAt g 0 m.known.cells.toList∧v.cell? ⟨g,74,none⟩=some (.int .u64 m.known.flo))
 obtain⟨-,c81,-,-⟩:=st _ _ h1 (by simp);rw[hlv]at c81
 have kw:=fun(v:World) (X:List (Nat × Obj)) (hv:St W v J X)=>ref_wipe ok.known hv
 have ti:=z7 ok.known
 have ka:=fun(v:World) (X:List (Nat × Obj)) (hv:St W v J X)=>ref_aim ok.known hv
 have p0:=kz m ({ m with began:=m.began+1 }:Md) (.slice A ns.length c) (.int .i64 (m.began+1)) 5 ok.known rfl (by decide) rfl;have p1:=kz ({ m with began:=m.began+1 }:Md) ({ m with job:=⟨m.began+1,m.job.state,m.job.fault,m.job.live,m.job.slot,m.job.floor⟩,began:=m.began+1 }:Md) (.slice A ns.length c) (.int .i64 (m.began+1)) 2 ok.known rfl (by decide) rfl;have p2:=kz ({ m with job:=⟨m.began+1,m.job.state,m.job.fault,m.job.live,m.job.slot,m.job.floor⟩,began:=m.began+1 }:Md) ({ m with job:=⟨m.began+1,1,m.job.fault,m.job.live,m.job.slot,m.job.floor⟩,began:=m.began+1 }:Md) (.slice A ns.length c) (.int .i64 1) 3 ok.known rfl (by decide) rfl;have p3:=kz ({ m with job:=⟨m.began+1,1,m.job.fault,m.job.live,m.job.slot,m.job.floor⟩,began:=m.began+1 }:Md) ({ m with job:=⟨m.began+1,1,0,m.job.live,m.job.slot,m.job.floor⟩,began:=m.began+1 }:Md) (.slice A ns.length c) (.int .i64 0) 4 ok.known rfl (by decide) rfl;have p4:=kz ({ m with job:=⟨m.began+1,1,0,m.job.live,m.job.slot,m.job.floor⟩,began:=m.began+1 }:Md) ({ m with job:=⟨m.began+1,1,0,true,m.job.slot,m.job.floor⟩,began:=m.began+1 }:Md) (.slice A ns.length c) (.bool true) 6 ok.known rfl (by decide) rfl;have p5:=kz ({ m with job:=⟨m.began+1,1,0,true,m.job.slot,m.job.floor⟩,began:=m.began+1 }:Md) ({ m with job:=⟨m.began+1,1,0,true,aimT m.known,m.job.floor⟩,began:=m.began+1 }:Md) (.slice A ns.length c) (.int .i64 (aimT m.known)) 7 ok.known rfl (by decide) rfl
 have p6:=kz ({ m with job:=⟨m.began+1,1,0,true,aimT m.known,m.job.floor⟩,began:=m.began+1 }:Md) ({ m with job:=⟨m.began+1,1,0,true,aimT m.known,m.known.flo⟩,began:=m.began+1 }:Md) (.slice A ns.length c) (.int .u64 m.known.flo) 8 ok.known rfl (by decide) rfl;have z0:(stC m (.slice A ns.length c)).size=84:=jj ok.known;have z1:(stC ({ m with began:=m.began+1 }:Md) (.slice A ns.length c)).size=84:=jj ok.known;have z2:(stC ({ m with job:=⟨m.began+1,m.job.state,m.job.fault,m.job.live,m.job.slot,m.job.floor⟩,began:=m.began+1 }:Md) (.slice A ns.length c)).size=84:=jj ok.known;have z3:(stC ({ m with job:=⟨m.began+1,1,m.job.fault,m.job.live,m.job.slot,m.job.floor⟩,began:=m.began+1 }:Md) (.slice A ns.length c)).size=84:=jj ok.known;have z4:(stC ({ m with job:=⟨m.began+1,1,0,m.job.live,m.job.slot,m.job.floor⟩,began:=m.began+1 }:Md) (.slice A ns.length c)).size=84:=jj ok.known;have z5:(stC ({ m with job:=⟨m.began+1,1,0,true,m.job.slot,m.job.floor⟩,began:=m.began+1 }:Md) (.slice A ns.length c)).size=84:=jj ok.known;have z6:(stC ({ m with job:=⟨m.began+1,1,0,true,aimT m.known,m.job.floor⟩,began:=m.began+1 }:Md) (.slice A ns.length c)).size=84:=jj ok.known
 have e80:=fun(v:World) (X:List (Nat × Obj)) (b:Nat) (hv:St W v J X) (hm:(b,Obj.cells (stC m (.slice A ns.length c)) 47 (0,0))∈X)=>(hv.stt ok hm).began
 have e81:=fun(v:World) (X:List (Nat × Obj)) (b:Nat) (hv:St W v J X) (hm:(b,Obj.cells (stC ({ m with began:=m.began+1 }:Md) (.slice A ns.length c)) 47 (0,0))∈X)=>(hv.stt (m:=({ m with began:=m.began+1 }:Md)) ⟨ok.known,ok.t0,ok.t1,ok.job,b0',b1'⟩ hm).began
 have e7:=fun(v:World) (X:List (Nat × Obj)) (b:Nat) (hv:St W v J X) (hm:(b,Obj.cells (stC (nextI m) (.slice A ns.length c)) 47 (0,0))∈X)=>(⟨(hv.stt nok hm).number,(hv.stt nok hm).all⟩:v.cell? ⟨b,77,none⟩=some (.int .i64 (m.began+1))∧v.rangeAt b 0 (stC (nextI m) (.slice A ns.length c)).toList)
 dsimp only at e81;obtain⟨fw,fw8⟩:=zad ok.known
 have kk:=fun(A1:Option Addr) (c1:Nat) (L1 X:List (Nat × Obj)) (v:World) (hr:Row 147 40 (.slice A1 (wipeT m.known).1.length c1) (wipeT m.known).1.length (cgs (wipeT m.known).1) L1) (hv:St W v J (L1++X))=>zar (nv:=(.slice A ns.length c)) (r:=⟨0,m.began+1,0,0,0,zTb⟩) (store:=store) rfl ok nok zt fw hr fw8 hv
 have i7:=zz (nv:=(.slice A ns.length c)) nok;have o7:=ye (m:=nextI m) (nv:=(.slice A ns.length c)) rfl;have kok:=u2 (r:=⟨0,m.began+1,0,0,0,zTb⟩) (store:=store) ok nok fw zt;have ks:=zy (nv:=(.slice A ns.length c)) kok.1;have ki:=zz (nv:=(.slice A ns.length c)) kok.1;have ko:=ye (m:=(keepM m (nextI m) (wipeT m.known).1 ⟨0,m.began+1,0,0,0,zTb⟩ store).1) (nv:=(.slice A ns.length c)) rfl;have rs:=Ry.size kok.2;have ri:=yu kok.2;have ro:=Ry.one (keepM m (nextI m) (wipeT m.known).1 ⟨0,m.began+1,0,0,0,zTb⟩ store).2;have br:=run_build_rjob (m.began+1);obtain⟨R0,hR0⟩:∃y,(⟨0,m.began+1,0,0,0,zTb⟩:Ry).cells=y:=⟨_,rfl⟩;rw[hR0]at br kk;obtain⟨P,hP⟩:∃y,keepM m (nextI m) (wipeT m.known).1 ⟨0,m.began+1,0,0,0,zTb⟩ store=y:=⟨_,rfl⟩;rw[hP]at kk ks ki ko rs ri ro ⊢;obtain⟨M8,hM8⟩:∃y,stC P.1 (.slice A ns.length c)=y:=⟨_,rfl⟩;obtain⟨R8,hR8⟩:∃y,P.2.cells=y:=⟨_,rfl⟩;rw[hM8]at kk ks ki ko ⊢;rw[hR8]at kk rs ri ro ⊢;rw[hno]at kh;obtain⟨M0,hM0⟩:∃y,stC m (.slice A ns.length c)=y:=⟨_,rfl⟩;rw[hM0]at h1 s0 i0 o0 st c81 kh ⊢;obtain⟨M1,hM1⟩:∃y,stC ({ m with began:=m.began+1 }:Md) (.slice A ns.length c)=y:=⟨_,rfl⟩;obtain⟨M2,hM2⟩:∃y,stC ({ m with job:=⟨m.began+1,m.job.state,m.job.fault,m.job.live,m.job.slot,m.job.floor⟩,began:=m.began+1 }:Md) (.slice A ns.length c)=y:=⟨_,rfl⟩;obtain⟨M3,hM3⟩:∃y,stC ({ m with job:=⟨m.began+1,1,m.job.fault,m.job.live,m.job.slot,m.job.floor⟩,began:=m.began+1 }:Md) (.slice A ns.length c)=y:=⟨_,rfl⟩
 obtain⟨M4,hM4⟩:∃y,stC ({ m with job:=⟨m.began+1,1,0,m.job.live,m.job.slot,m.job.floor⟩,began:=m.began+1 }:Md) (.slice A ns.length c)=y:=⟨_,rfl⟩;obtain⟨M5,hM5⟩:∃y,stC ({ m with job:=⟨m.began+1,1,0,true,m.job.slot,m.job.floor⟩,began:=m.began+1 }:Md) (.slice A ns.length c)=y:=⟨_,rfl⟩;obtain⟨M6,hM6⟩:∃y,stC ({ m with job:=⟨m.began+1,1,0,true,aimT m.known,m.job.floor⟩,began:=m.began+1 }:Md) (.slice A ns.length c)=y:=⟨_,rfl⟩;obtain⟨M7,hM7⟩:∃y,stC (nextI m) (.slice A ns.length c)=y:=⟨_,rfl⟩;have hM7':stC ({ m with job:=⟨m.began+1,1,0,true,aimT m.known,m.known.flo⟩,began:=m.began+1 }:Md) (.slice A ns.length c)=M7:=hM7;rw[hM0,hM1]at p0;rw[hM1,hM2]at p1;rw[hM2,hM3]at p2;rw[hM3,hM4]at p3;rw[hM4,hM5]at p4;rw[hM5,hM6]at p5;rw[hM6,hM7']at p6;rw[hM0]at e80 z0;rw[hM1]at e81 z1;rw[hM2]at z2;rw[hM3]at z3;rw[hM4]at z4;rw[hM5]at z5;rw[hM6]at z6;rw[hM7]at e7 i7 o7 kk;rw[hM0]at kk;obtain⟨⟨cs,y⟩,hW⟩:∃r,wipeT m.known=r:=⟨_,rfl⟩;rw[hW]at kw hw kk;unfold CPost at kw;unfold Tb.val at kw ka;dsimp only at kw hw kk;subst hw;obtain⟨AI,hAI⟩:∃y,aimT m.known=y:=⟨_,rfl⟩;obtain⟨FL,hFL⟩:∃y,m.known.flo=y:=⟨_,rfl⟩;obtain⟨BG,hBG⟩:∃y,m.began=y:=⟨_,rfl⟩;rw[hBG]at e80 e81 e7 br b0 b1 p0 p1 b0' b1';rw[hAI]at ka p5;rw[hFL]at st p6;obtain⟨C,hC⟩:∃C,m.known.cells=C:=⟨_,rfl⟩;rw[hC]at kw ti st ka
 have sfit:0+M0.size≤Tryz.zeroCells47.size:=by rw[s0,zst];omega
 have smany:zg Tryz.zeroCells47 0 M0.toList=M0:=by rw[zd _ _ (by rw[Array.length_toList,s0,zst]),Array.toArray_toList]
 have sfit8:0+M8.size≤Tryz.zeroCells47.size:=by rw[ks,zst];omega
 have smany8:zg Tryz.zeroCells47 0 M8.toList=M8:=by rw[zd _ _ (by rw[Array.length_toList,ks,zst]),Array.toArray_toList]
 have rfit8:0+R8.size≤Tryz.zeroCells52.size:=by rw[rs,zry];omega
 have rmany8:zg Tryz.zeroCells52 0 R8.toList=R8:=by rw[zd _ _ (by rw[Array.length_toList,rs,zry]),Array.toArray_toList]
 have KH:=za kh;have KW:=za kw;have KA:=za ka;have TI:=za ti;have ST:=za st;have E80:=za e80;have E81:=za e81;have E7:=za e7;have P0:=za p0;have P1:=za p1;have P2:=za p2;have P3:=za p3;have P4:=za p4;have P5:=za p5;have P6:=za p6;have KK:=za kk;have BR:=za br;have I0:=za i0;have O0:=za o0;have I7:=za i7;have O7:=za o7;have SFIT:=za sfit;have SMANY:=za smany;have SFIT8:=za sfit8;have SMANY8:=za smany8;have RFIT8:=za rfit8;have RMANY8:=za rmany8;have KI:=za ki;have KO:=za ko;have RI:=za ri;have RO:=za ro;clear kh kw ka ti st e80 e81 e7 p0 p1 p2 p3 p4 p5 p6 kk br i0 o0 i7 o7 sfit smany sfit8 smany8 rfit8 rmany8 ki ko ri ro;have HL:=za hL;have H1:=za h1;have Z0:=za (show 80 < M0.size by rw[z0];decide);have Z1:=za (show 77 < M1.size by rw[z1];decide);have Z2:=za (show 78 < M2.size by rw[z2];decide);have Z3:=za (show 79 < M3.size by rw[z3];decide);have Z4:=za (show 81 < M4.size by rw[z4];decide);have Z5:=za (show 82 < M5.size by rw[z5];decide);have Z6:=za (show 83 < M6.size by rw[z6];decide);have I1:=za (show(Tryz.prog.info? 3).map (·.size)=some 1 by kernel_rfl);have IE:=za (show(Tryz.prog.info? 37).map (·.size)=some 1 by kernel_rfl);have IB:=za (show(Tryz.prog.info? 4).map (·.size)=some 1 by kernel_rfl);have IU:=za (show(Tryz.prog.info? 22).map (·.size)=some 1 by kernel_rfl);clear h1 hL z0 z1 z2 z3 z4 z5 z6 hM0 hM1 hM2 hM3 hM4 hM5 hM6 hM7 hM7' hM8 hR8 hR0 hP hC hW hAI hFL hBG ks rs s0 h hlv ok nok hrd hn hsz tb hx hno kok fw fw8 q0 q1
 go_enter Tryz.func44,Tryz.ntmps44
 go_wp2_with (with_reducible refine zb 18 rfl (by kernel_rfl) 47 (.tmp 3) rfl g 0 rfl M0 _ (ST.out _ _ H1.out (by simp)).1 Tryz.underlying47 rfl I0.out ?_)
 go_at_call 76;refine(KH.out _ _ (fun p hp=>by have:=HL.out p hp;simp[this]) H1.out).mono ?_;rintro e wh ⟨rfl,hh⟩;have HH:=za hh;clear hh H1
 go_wp2_with (with_reducible refine zb 28 rfl (by kernel_rfl) 29 (.tmp 27) rfl g 0 rfl C _ (ST.out _ _ HH.out (by simp)).2.2.1 Tryz.underlying29 rfl TI.out ?_)
 go_at_call 77;refine(KW.out _ _ HH.out).mono ?_;rintro e ww ⟨A1,c1,L1,rfl,hr1,hw1⟩;have hw2:=hw1.perm (L':=(g+2,.cells Tryz.zeroCells52 52 (0,0))::(g+1,.cells Tryz.zeroCells47 47 (0,0))::(g,.cells M0 47 (0,0))::(L1++F)) ze;have HW:=za hw2;clear hw1 hw2 HH;have HR1:=za hr1;clear hr1;have hn:=HW.out.alloc (.cells Tryz.zeroCells47 47);have HN:=za hn;clear hn
 go_wp2_with (first|(with_reducible refine zb 39 rfl (by kernel_rfl) 47 (.tmp 3) rfl g 0 rfl M0 _ (ST.out _ _ HW.out (by simp)).1 Tryz.underlying47 rfl I0.out ?_)|(with_reducible refine zc rfl 47 (.tmp 11) (.tmp 39) rfl (g:=ww.heap.size) (off:=0) M0 rfl rfl HN.out SFIT.out I0.out O0.out ?_;intro w3 h3;refine Hid.out ?_))
 refine za ?_;rw[SMANY.out]at h3;obtain⟨gx,hgx⟩:∃y,ww.heap.size=y:=⟨_,rfl⟩;rw[hgx]at h3 ⊢;have H3:=za h3;clear h3 HN HW hgx;have q80:=E80.out _ _ gx H3.out (by simp)
 go_wp2_with (with_reducible refine zk rfl 3 (.tmp 43) (.tmp 42) rfl (g:=gx) (off:=80) (.int .i64 (BG+1)) rfl rfl rfl H3.out Z0.out I1.out rfl ?_;intro w5 h5;refine Hid.out ?_)
 refine za ?_;rw[show zg M0 80 [.int .i64 (BG+1)]=M1 from P0.out]at h5;have H4:=za h5;clear h5 H3;clear q80;have q81:=E81.out _ _ gx H4.out (by simp)
 go_wp2_with (with_reducible refine zk rfl 3 (.tmp 46) (.tmp 45) rfl (g:=gx) (off:=77) (.int .i64 (BG+1)) rfl rfl rfl H4.out Z1.out I1.out rfl ?_;intro w5 h5;refine Hid.out ?_)
 refine za ?_;rw[show zg M1 77 [.int .i64 (BG+1)]=M2 from P1.out]at h5;have H5:=za h5;clear h5 H4;clear q81
 go_wp2_with (with_reducible refine zk rfl 3 (.tmp 47) (.const (.int .i64 1)) rfl (g:=gx) (off:=78) (.int .i64 1) rfl rfl rfl H5.out Z2.out I1.out rfl ?_;intro w5 h5;refine Hid.out ?_)
 refine za ?_;rw[show zg M2 78 [.int .i64 1]=M3 from P2.out]at h5;have H6:=za h5;clear h5 H5
 go_wp2_with (with_reducible refine zk rfl 37 (.tmp 48) (.const (.int .i64 0)) rfl (g:=gx) (off:=79) (.int .i64 0) rfl rfl rfl H6.out Z3.out IE.out rfl ?_;intro w5 h5;refine Hid.out ?_)
 refine za ?_;rw[show zg M3 79 [.int .i64 0]=M4 from P3.out]at h5;have H7:=za h5;clear h5 H6
 go_wp2_with (with_reducible refine zk rfl 4 (.tmp 49) (.const (.bool true)) rfl (g:=gx) (off:=81) (.bool true) rfl rfl rfl H7.out Z4.out IB.out rfl ?_;intro w5 h5;refine Hid.out ?_)
 refine za ?_;rw[show zg M4 81 [.bool true]=M5 from P4.out]at h5;have H8:=za h5;clear h5 H7
 go_wp2_with (with_reducible refine zb 51 rfl (by kernel_rfl) 29 (.tmp 50) rfl g 0 rfl C _ (ST.out _ _ H8.out (by simp)).2.2.1 Tryz.underlying29 rfl TI.out ?_)
 go_at_call 78;refine(KA.out _ _ H8.out).mono ?_;rintro e wa ⟨rfl,ha⟩;clear H8;have H8:=za ha;clear ha
 go_wp2_with (with_reducible refine zk rfl 3 (.tmp 53) (.tmp 52) rfl (g:=gx) (off:=82) (.int .i64 (AI)) rfl rfl rfl H8.out Z5.out I1.out rfl ?_;intro w5 h5;refine Hid.out ?_)
 refine za ?_;rw[show zg M5 82 [.int .i64 (AI)]=M6 from P5.out]at h5;have H9:=za h5;clear h5 H8;have q74:=(ST.out _ _ H9.out (by simp)).2.2.2
 go_wp2_with (with_reducible refine zk rfl 22 (.tmp 57) (.tmp 56) rfl (g:=gx) (off:=83) (.int .u64 FL) rfl rfl rfl H9.out Z6.out IU.out rfl ?_;intro w5 h5;refine Hid.out ?_)
 refine za ?_;rw[show zg M6 83 [.int .u64 FL]=M7 from P6.out]at h5;have H10:=za h5;clear h5 H9;clear q74;have q77:=(E7.out _ _ gx H10.out (by simp)).1;have HKK:=za (KK.out A1 c1 L1 ((gx,.cells M7 47 (0,0))::(g+2,.cells Tryz.zeroCells52 52 (0,0))::(g+1,.cells Tryz.zeroCells47 47 (0,0))::(g,.cells M0 47 (0,0))::F) _ HR1.out (H10.out.perm ze))
 go_wp2_with (first|(with_reducible refine zb 58 rfl (by kernel_rfl) 47 (.tmp 3) rfl g 0 rfl M0 _ (ST.out _ _ H10.out (by simp)).1 Tryz.underlying47 rfl I0.out ?_)|(with_reducible refine zb 59 rfl (by kernel_rfl) 47 (.tmp 11) rfl gx 0 rfl M7 _ (E7.out _ _ gx H10.out (by simp)).2 Tryz.underlying47 rfl I7.out ?_)|(with_reducible refine zh rfl 52 _ rfl _ ?_ (BR.out _) ?_;·go_simp))
 go_at_call 48;refine HKK.out.mono ?_;rintro e wk ⟨rfl,hk⟩;have hk2:=hk.perm (L':=(g+1,.cells Tryz.zeroCells47 47 (0,0))::(g+2,.cells Tryz.zeroCells52 52 (0,0))::(gx,.cells M7 47 (0,0))::(g,.cells M0 47 (0,0))::(L1++F)) ze;have HK:=za hk2;clear hk hk2 HKK q77 H10
 go_wp2_with (with_reducible refine zc rfl 47 (.tmp 6) (.tmp 66) rfl (g:=g+1) (off:=0) M8 rfl rfl HK.out SFIT8.out KI.out KO.out ?_;intro w6 h6;refine Hid.out ?_)
 refine za ?_;rw[SMANY8.out]at h6;have h7:=h6.perm (L':=(g+2,.cells Tryz.zeroCells52 52 (0,0))::(g+1,.cells M8 47 (0,0))::(gx,.cells M7 47 (0,0))::(g,.cells M0 47 (0,0))::(L1++F)) ze;have H7:=za h7;clear h6 h7 HK
 go_wp2_with (with_reducible refine zc rfl 52 (.tmp 7) (.tmp 67) rfl (g:=g+2) (off:=0) R8 rfl rfl H7.out RFIT8.out RI.out RO.out ?_;intro w8 h8;refine Hid.out ?_)
 refine za ?_;rw[RMANY8.out]at h8;have HZ:=za h8;clear h8 H7;go_wp2_with fail;refine bodyPost_ret (yq rfl _ _ (g+1) (g+2) 47 52 M8 R8 (0,0) (0,0) _ _ _ rfl rfl rfl (HZ.out.own (g+1,.cells M8 47 (0,0)) (by simp)) (HZ.out.own (g+2,.cells R8 52 (0,0)) (by simp)) Tryz.underlying47 (by kernel_rfl) KI.out Tryz.underlying52 (by kernel_rfl) RI.out) rfl ?_;exact⟨rfl,St.weaken (A:=(g+2,.cells R8 52 (0,0))::(g+1,.cells M8 47 (0,0))::(gx,.cells M7 47 (0,0))::(g,.cells M0 47 (0,0))::L1) (by simpa using HZ.out)⟩
theorem r26_install {A:Option Addr} (tb:Go.Proofs.YtnjnooeldkideaaGreatDoor.TB W J) (x:ByteArray) (hx:x.size≤1000000) (c:Nat) (ok:m.Ok) (hrd:Rd W J Ln 1 A (y2 ns)) (hn:ns.length≤1000) (hsz:∀s∈ns,s.size≤1000000) (hL:∀p∈Ln,p∈F) (store:Int) (h:St W w J F) (b0:0≤m.began) (b1:m.began≤1000000):Calls Tryz.prog 44 #[.agg (stC m (.slice A ns.length c)),.string x,.int .i64 store] w (DPost W J F (.slice A ns.length c) (instD m ns x store)):=by
 unfold instD
 cases hlv:m.job.live with
 | true=>rw[if_pos rfl];exact rfi_live tb x hx c ok hrd hn hsz hL store h hlv
 | false=>
  rw[if_neg (by decide)]
  cases hno:hasB ns (foldB x) with
  | false=>rw[if_pos rfl];exact rfi_name tb x hx c ok hrd hn hsz hL store h hlv hno
  | true=>
   rw[if_neg (by decide)]
   by_cases hw:(wipeT m.known).2=0
   ·rw[if_neg (fun h=>h hw)];exact rfi_keep tb x hx c ok hrd hn hsz hL store h b0 b1 hlv hno hw
   ·rw[if_pos hw];exact rfi_wipe tb x hx c ok hrd hn hsz hL store h hlv hno hw
end
end

section
set_option linter.unusedVariables false
set_option linter.unusedSimpArgs false
set_option linter.unnecessarySimpa false
open Go.RowKit Go.Lib
section
variable {W w:World} {I:Nat→Option Obj} {F:List (Nat × Obj)}
theorem emp_isEmpty (x:ByteArray):x.toList.isEmpty=emp x:=by
 unfold emp;rw[ByteArray.toList_eq,ByteArray.toList_eq]
 cases h:x.data.toList with
 | nil=>rfl
 | cons a l=>rfl
theorem kq (t:TB W I) (c:Cl) (ok:c.Ok) (h:St W w I F) :
  Calls Tryz.prog 42 #[c.val] w fun e w'=>e=.returned (.bool (y3 c))∧St W w' I F:=by
 have h0:=h.alloc (.cells c.cells 50)
 have kN:=fun(v:World) (F:List (Nat × Obj)) (hv:St W v I F)=>rname_any t c.name ok.n1 hv
 have p0:=h0.clf (b:=w.heap.size) (c:=c) (by simp);have rk:=right_kind c;have n1:=emp_isEmpty c.name;have n2:=emp.eq_1 c.name;unfold Cl.val;obtain⟨R,hR⟩:∃R,y3 c=R:=⟨_,rfl⟩;rw[hR]at rk ⊢;generalize hC:c.cells=C at *;generalize c.client=cl at *;generalize c.slot=sl at *;generalize c.job=jo at *;generalize emp c.name=E at *;generalize c.name=na at *;generalize c.kind=kd at *;have KN:=za kN;have RK:=za rk;have H0:=za h0;have N2:=za n2;obtain⟨p0,p1,p2,p3,p4⟩:=p0;clear kN rk h0 h t ok hR hC n2
 by_cases c0:0≤cl
 ·by_cases c1:cl≤7
  ·by_cases k1:kd=1
   ·subst k1
    by_cases sl0:sl=0
    ·subst sl0
     by_cases jo0:jo=0
     ·subst jo0
      by_cases hB:k7 na=true
      ·rw[hB]at KN
       have hR2:R=true:=by rw[RK.out 1 rfl,if_pos (by decide)];simp[*]
       clear RK;subst hR2
       go_enter Tryz.func42,Tryz.ntmps42
       go_wp2_with fail;refine(KN.out _ _ H0.out).mono ?_;rintro e w5 ⟨rfl,h5⟩;have H5:=za h5;clear h5 H0 KN;go_wp2_with fail;go_ret;exact⟨rfl,St.weaken (A:=[_]) H5.out⟩
      ·have hB2:k7 na=false:=by simpa using hB
       rw[hB2]at KN
       have hR2:R=false:=by rw[RK.out 1 rfl,if_pos (by decide)];simp[hB2]
       clear RK;subst hR2
       go_enter Tryz.func42,Tryz.ntmps42
       go_wp2_with fail;refine(KN.out _ _ H0.out).mono ?_;rintro e w5 ⟨rfl,h5⟩;have H5:=za h5;clear h5 H0 KN;go_wp2_with fail;go_ret;exact⟨rfl,St.weaken (A:=[_]) H5.out⟩
     ·have qj:(jo==0)=false:=beq_eq_false_iff_ne.2 jo0
      have hR2:R=false:=by rw[RK.out 1 rfl,if_pos (by decide)];simp[qj]
      clear RK;subst hR2
      go_enter Tryz.func42,Tryz.ntmps42
      go_wp2_with fail;go_ret;exact⟨by (rfl),St.weaken (A:=[_]) H0.out⟩
    ·have qs:(sl==0)=false:=beq_eq_false_iff_ne.2 sl0
     have hR2:R=false:=by rw[RK.out 1 rfl,if_pos (by decide)];simp[qs]
     clear RK;subst hR2
     go_enter Tryz.func42,Tryz.ntmps42
     go_wp2_with fail;go_ret;exact⟨by (rfl),St.weaken (A:=[_]) H0.out⟩
   by_cases k2:kd=2
   ·subst k2
    by_cases sl0:sl=0
    ·subst sl0
     by_cases hE:E=true
     ·subst hE
      by_cases j0:0≤jo
      ·by_cases j1:jo≤1073741824
       ·have hR2:R=true:=by rw[RK.out 2 rfl,if_neg (by decide),if_pos (by decide)];simp[*]
        clear RK;subst hR2
        go_enter Tryz.func42,Tryz.ntmps42
        go_wp2_with fail;go_ret;exact⟨by (rfl),St.weaken (A:=[_]) H0.out⟩
       ·have hR2:R=false:=by rw[RK.out 2 rfl,if_neg (by decide),if_pos (by decide)];simp[decide_eq_false j1]
        clear RK;subst hR2
        go_enter Tryz.func42,Tryz.ntmps42
        go_wp2_with fail;go_ret;exact⟨by (rfl),St.weaken (A:=[_]) H0.out⟩
      ·have hR2:R=false:=by rw[RK.out 2 rfl,if_neg (by decide),if_pos (by decide)];simp[decide_eq_false j0]
       clear RK;subst hR2
       go_enter Tryz.func42,Tryz.ntmps42
       go_wp2_with fail;go_ret;exact⟨by (rfl),St.weaken (A:=[_]) H0.out⟩
     ·have hE2:E=false:=by simpa using hE
      subst hE2
      have hR2:R=false:=by rw[RK.out 2 rfl,if_neg (by decide),if_pos (by decide)];simp
      clear RK;subst hR2
      go_enter Tryz.func42,Tryz.ntmps42
      go_wp2_with fail;go_ret;exact⟨by (rfl),St.weaken (A:=[_]) H0.out⟩
    ·have qs:(sl==0)=false:=beq_eq_false_iff_ne.2 sl0
     have hR2:R=false:=by rw[RK.out 2 rfl,if_neg (by decide),if_pos (by decide)];simp[qs]
     clear RK;subst hR2
     go_enter Tryz.func42,Tryz.ntmps42
     go_wp2_with fail;go_ret;exact⟨by (rfl),St.weaken (A:=[_]) H0.out⟩
   by_cases k3:kd=3
   ·subst k3
    by_cases sl0:sl=0
    ·subst sl0
     by_cases jo0:jo=0
     ·subst jo0
      by_cases hE:E=true
      ·subst hE
       have hR2:R=true:=by rw[RK.out 3 rfl,if_neg (by decide),if_neg (by decide),if_pos (by decide)];simp[*]
       clear RK;subst hR2
       go_enter Tryz.func42,Tryz.ntmps42
       go_wp2_with fail;go_ret;exact⟨by (rfl),St.weaken (A:=[_]) H0.out⟩
      ·have hE2:E=false:=by simpa using hE
       subst hE2
       have hR2:R=false:=by rw[RK.out 3 rfl,if_neg (by decide),if_neg (by decide),if_pos (by decide)];simp
       clear RK;subst hR2
       go_enter Tryz.func42,Tryz.ntmps42
       go_wp2_with fail;go_ret;exact⟨by (rfl),St.weaken (A:=[_]) H0.out⟩
     ·have qj:(jo==0)=false:=beq_eq_false_iff_ne.2 jo0
      have hR2:R=false:=by rw[RK.out 3 rfl,if_neg (by decide),if_neg (by decide),if_pos (by decide)];simp[qj]
      clear RK;subst hR2
      go_enter Tryz.func42,Tryz.ntmps42
      go_wp2_with fail;go_ret;exact⟨by (rfl),St.weaken (A:=[_]) H0.out⟩
    ·have qs:(sl==0)=false:=beq_eq_false_iff_ne.2 sl0
     have hR2:R=false:=by rw[RK.out 3 rfl,if_neg (by decide),if_neg (by decide),if_pos (by decide)];simp[qs]
     clear RK;subst hR2
     go_enter Tryz.func42,Tryz.ntmps42
     go_wp2_with fail;go_ret;exact⟨by (rfl),St.weaken (A:=[_]) H0.out⟩
   by_cases k6:kd=6
   ·subst k6
    by_cases sl0:sl=0
    ·subst sl0
     by_cases jo0:jo=0
     ·subst jo0
      by_cases hE:E=true
      ·subst hE
       have hR2:R=true:=by rw[RK.out 6 rfl,if_neg (by decide),if_neg (by decide),if_pos (by decide)];simp[*]
       clear RK;subst hR2
       go_enter Tryz.func42,Tryz.ntmps42
       go_wp2_with fail;go_ret;exact⟨by (rfl),St.weaken (A:=[_]) H0.out⟩
      ·have hE2:E=false:=by simpa using hE
       subst hE2
       have hR2:R=false:=by rw[RK.out 6 rfl,if_neg (by decide),if_neg (by decide),if_pos (by decide)];simp
       clear RK;subst hR2
       go_enter Tryz.func42,Tryz.ntmps42
       go_wp2_with fail;go_ret;exact⟨by (rfl),St.weaken (A:=[_]) H0.out⟩
     ·have qj:(jo==0)=false:=beq_eq_false_iff_ne.2 jo0
      have hR2:R=false:=by rw[RK.out 6 rfl,if_neg (by decide),if_neg (by decide),if_pos (by decide)];simp[qj]
      clear RK;subst hR2
      go_enter Tryz.func42,Tryz.ntmps42
      go_wp2_with fail;go_ret;exact⟨by (rfl),St.weaken (A:=[_]) H0.out⟩
    ·have qs:(sl==0)=false:=beq_eq_false_iff_ne.2 sl0
     have hR2:R=false:=by rw[RK.out 6 rfl,if_neg (by decide),if_neg (by decide),if_pos (by decide)];simp[qs]
     clear RK;subst hR2
     go_enter Tryz.func42,Tryz.ntmps42
     go_wp2_with fail;go_ret;exact⟨by (rfl),St.weaken (A:=[_]) H0.out⟩
   by_cases k4:kd=4
   ·subst k4
    by_cases jo0:jo=0
    ·subst jo0
     by_cases hE:E=true
     ·subst hE
      by_cases s0:0≤sl
      ·by_cases s1:sl≤255
       ·have hR2:R=true:=by rw[RK.out 4 rfl,if_neg (by decide),if_neg (by decide),if_neg (by decide),if_pos (by decide)];simp[*]
        clear RK;subst hR2
        go_enter Tryz.func42,Tryz.ntmps42
        go_wp2_with fail;go_ret;exact⟨by (rfl),St.weaken (A:=[_]) H0.out⟩
       ·have hR2:R=false:=by rw[RK.out 4 rfl,if_neg (by decide),if_neg (by decide),if_neg (by decide),if_pos (by decide)];simp[decide_eq_false s1]
        clear RK;subst hR2
        go_enter Tryz.func42,Tryz.ntmps42
        go_wp2_with fail;go_ret;exact⟨by (rfl),St.weaken (A:=[_]) H0.out⟩
      ·have hR2:R=false:=by rw[RK.out 4 rfl,if_neg (by decide),if_neg (by decide),if_neg (by decide),if_pos (by decide)];simp[decide_eq_false s0]
       clear RK;subst hR2
       go_enter Tryz.func42,Tryz.ntmps42
       go_wp2_with fail;go_ret;exact⟨by (rfl),St.weaken (A:=[_]) H0.out⟩
     ·have hE2:E=false:=by simpa using hE
      subst hE2
      have hR2:R=false:=by rw[RK.out 4 rfl,if_neg (by decide),if_neg (by decide),if_neg (by decide),if_pos (by decide)];simp
      clear RK;subst hR2
      go_enter Tryz.func42,Tryz.ntmps42
      go_wp2_with fail;go_ret;exact⟨by (rfl),St.weaken (A:=[_]) H0.out⟩
    ·have qj:(jo==0)=false:=beq_eq_false_iff_ne.2 jo0
     have hR2:R=false:=by rw[RK.out 4 rfl,if_neg (by decide),if_neg (by decide),if_neg (by decide),if_pos (by decide)];simp[qj]
     clear RK;subst hR2
     go_enter Tryz.func42,Tryz.ntmps42
     go_wp2_with fail;go_ret;exact⟨by (rfl),St.weaken (A:=[_]) H0.out⟩
   by_cases k5:kd=5
   ·subst k5
    by_cases jo0:jo=0
    ·subst jo0
     by_cases hE:E=true
     ·subst hE
      by_cases s0:0≤sl
      ·by_cases s1:sl≤255
       ·have hR2:R=true:=by rw[RK.out 5 rfl,if_neg (by decide),if_neg (by decide),if_neg (by decide),if_pos (by decide)];simp[*]
        clear RK;subst hR2
        go_enter Tryz.func42,Tryz.ntmps42
        go_wp2_with fail;go_ret;exact⟨by (rfl),St.weaken (A:=[_]) H0.out⟩
       ·have hR2:R=false:=by rw[RK.out 5 rfl,if_neg (by decide),if_neg (by decide),if_neg (by decide),if_pos (by decide)];simp[decide_eq_false s1]
        clear RK;subst hR2
        go_enter Tryz.func42,Tryz.ntmps42
        go_wp2_with fail;go_ret;exact⟨by (rfl),St.weaken (A:=[_]) H0.out⟩
      ·have hR2:R=false:=by rw[RK.out 5 rfl,if_neg (by decide),if_neg (by decide),if_neg (by decide),if_pos (by decide)];simp[decide_eq_false s0]
       clear RK;subst hR2
       go_enter Tryz.func42,Tryz.ntmps42
       go_wp2_with fail;go_ret;exact⟨by (rfl),St.weaken (A:=[_]) H0.out⟩
     ·have hE2:E=false:=by simpa using hE
      subst hE2
      have hR2:R=false:=by rw[RK.out 5 rfl,if_neg (by decide),if_neg (by decide),if_neg (by decide),if_pos (by decide)];simp
      clear RK;subst hR2
      go_enter Tryz.func42,Tryz.ntmps42
      go_wp2_with fail;go_ret;exact⟨by (rfl),St.weaken (A:=[_]) H0.out⟩
    ·have qj:(jo==0)=false:=beq_eq_false_iff_ne.2 jo0
     have hR2:R=false:=by rw[RK.out 5 rfl,if_neg (by decide),if_neg (by decide),if_neg (by decide),if_pos (by decide)];simp[qj]
     clear RK;subst hR2
     go_enter Tryz.func42,Tryz.ntmps42
     go_wp2_with fail;go_ret;exact⟨by (rfl),St.weaken (A:=[_]) H0.out⟩
   have hR:R=false:=by
    rw[RK.out kd rfl,if_neg k1,if_neg k2,if_neg (by omega),if_neg (by omega)]
    simp
   subst hR;clear RK
   go_enter Tryz.func42,Tryz.ntmps42
   go_wp2_with fail;go_ret;exact⟨by (rfl),St.weaken (A:=[_]) H0.out⟩
  ·have hR:R=false:=by rw[RK.out kd rfl];simp[decide_eq_false c1]
   subst hR;clear RK
   go_enter Tryz.func42,Tryz.ntmps42
   go_wp2_with fail;go_ret;exact⟨by (rfl),St.weaken (A:=[_]) H0.out⟩
 ·have hR:R=false:=by rw[RK.out kd rfl];simp[decide_eq_false c0]
  subst hR;clear RK
  go_enter Tryz.func42,Tryz.ntmps42
  go_wp2_with fail;go_ret;exact⟨by (rfl),St.weaken (A:=[_]) H0.out⟩
end
end
end Go.Proofs.YtnjnooeldkideaaGreatDoor
