/- order: the document's Call: reboot; Call, whole. -/
import Derived.Test.YtnjnooeldkideaaGreatDoorRfD
import Derived.Test.YtnjnooeldkideaaGreatDoorMOrT
namespace Go.Proofs.YtnjnooeldkideaaGreatDoor
set_option maxRecDepth 100000
set_option maxHeartbeats 8000000
set_option linter.unusedVariables false
set_option linter.unusedSimpArgs false
open Go.RowKit Go.Lib Go.Deep
section
variable {W w:World} {J:Nat→Option Obj} {t:Tb} {F:List (Nat × Obj)}
variable {m:Md} {nv:Value} {ns:List ByteArray} {Ln:List (Nat × Obj)}
def rebD (m:Md):Md:={ m with job:=⟨0,0,0,m.job.live,m.job.slot,m.job.floor⟩ }
theorem rebD_ok (ok:m.Ok):(rebD m).Ok:=⟨ok.known,ok.t0,ok.t1,ql (by decide) (by decide) (by decide) (by decide) (by decide) (by decide) ok.job.l0 ok.job.l1 ok.job.f0 ok.job.f1,ok.b0,ok.b1⟩
theorem rfc_six_busy {A:Option Addr} (tb:Go.Proofs.YtnjnooeldkideaaGreatDoor.TB W J) (q:Cl) (qok:q.Ok) (hqs:q.name.size≤1000000) (c:Nat) (ok:m.Ok) (b0:0≤m.began) (b1:m.began≤1000000) (hrd:Rd W J Ln 1 A (y2 ns)) (hn:ns.length≤1000) (hsz:∀s∈ns,s.size≤1000000) (hL:∀p∈Ln,p∈F) (store:Int) (h:St W w J F) (hr:y3 q=true) (hs:keptB store=true) (hk:q.kind=6) (hc:m.job.live=true):Calls Tryz.prog 20 #[.agg (stC m (.slice A ns.length c)),q.val,.int .i64 store] w (DPost W J F (.slice A ns.length c) (failD m 251 store)):=by
 unfold DPost failD;dsimp only;have h1:=(((h.alloc (.cells (stC m (.slice A ns.length c)) 47)).alloc (.cells q.cells 50)).alloc (.cells Tryz.zeroCells47 47)).alloc (.cells Tryz.zeroCells52 52);obtain⟨g,hg⟩:∃g,w.heap.size=g:=⟨_,rfl⟩;simp only[World.size_alloc,hg,Nat.add_assoc,Nat.reduceAdd]at h1;have s0:=zy (nv:=(.slice A ns.length c)) ok;have i0:=zz (nv:=(.slice A ns.length c)) ok;have o0:=ye (m:=m) (nv:=(.slice A ns.length c)) rfl
 have st:=fun(v:World) (X:List (Nat × Obj)) (hv:St W v J X) (hm:(g,Obj.cells (stC m (.slice A ns.length c)) 47 (0,0))∈X)=>(⟨(hv.stt ok hm).all,(hv.stt ok hm).live,(hv.stt ok hm).known,(hv.stt ok hm).number,(hv.stt ok hm).slot,(hv.stt ok hm).state,(hv.stt ok hm).fault⟩:v.rangeAt g 0 (stC m (.slice A ns.length c)).toList∧v.cell? ⟨g,81,none⟩=some (.bool m.job.live)∧v.rangeAt g 0 m.known.cells.toList∧v.cell? ⟨g,77,none⟩=some (.int .i64 m.job.number)∧v.cell? ⟨g,82,none⟩=some (.int .i64 m.job.slot)∧v.cell? ⟨g,78,none⟩=some (.int .i64 m.job.state)∧v.cell? ⟨g,79,none⟩=some (.int .i64 m.job.fault))
 have fq:=fun(v:World) (X:List (Nat × Obj)) (hv:St W v J X) (hm:(g+1,Obj.cells q.cells 50 (0,0))∈X)=>(⟨hv.whole hm,(hv.clf hm).2⟩:v.rangeAt (g+1) 0 q.cells.toList∧v.cell? ⟨g+1,1,none⟩=some (.int .i64 q.kind)∧v.cell? ⟨g+1,2,none⟩=some (.int .i64 q.slot)∧v.cell? ⟨g+1,3,none⟩=some (.int .i64 q.job)∧v.cell? ⟨g+1,4,none⟩=some (.string q.name))
 have qi:=ky q
 have kr:=fun(v:World) (X:List (Nat × Obj)) (hv:St W v J X)=>kq tb q qok hv
 have ks:=fun(v:World) (X:List (Nat × Obj)) (hv:St W v J X)=>y5 store hv
 unfold Cl.val at *;rw[hc]at st;obtain⟨M0,hM0⟩:∃z,stC m (.slice A ns.length c)=z:=⟨_,rfl⟩;rw[hM0]at h1 s0 i0 o0 st ⊢;rw[hr]at kr;rw[hs]at ks;obtain⟨cl,ck,cs0,cj,cn⟩:=q;simp only at hk fq ⊢;subst hk;obtain⟨CC,hCC⟩:∃z,Cl.cells _=z:=⟨(⟨cl,_,cs0,cj,cn⟩:Cl).cells,rfl⟩;rw[hCC]at h1 kr qi fq ⊢
 have kf:=fun(v:World) (X:List (Nat × Obj)) (hv:St W v J X)=>jh (251) hv
 have rsz:=Ry.size (r:=(⟨251,0,0,0,0,zTb⟩:Ry)) zt;have rai:=yu (r:=(⟨251,0,0,0,0,zTb⟩:Ry)) zt;have rao:=Ry.one (⟨251,0,0,0,0,zTb⟩:Ry);obtain⟨R,hR⟩:∃z,(⟨251,0,0,0,0,zTb⟩:Ry).cells=z:=⟨_,rfl⟩;rw[hR]at kf rsz rai rao ⊢;obtain⟨sb,hsb⟩:∃b,(store==0)=b:=⟨_,rfl⟩;rw[hsb]
 have rfit:0+R.size≤Tryz.zeroCells52.size:=by rw[rsz,zry];omega
 have rmany:zg Tryz.zeroCells52 0 R.toList=R:=by rw[zd _ _ (by rw[Array.length_toList,rsz,zry]),Array.toArray_toList]
 have sfit:0+M0.size≤Tryz.zeroCells47.size:=by rw[s0,zst];omega
 have smany:zg Tryz.zeroCells47 0 M0.toList=M0:=by rw[zd _ _ (by rw[Array.length_toList,s0,zst]),Array.toArray_toList]
 have KF:=za kf;have RAI:=za rai;have RAO:=za rao;have RF:=za rfit;have RM:=za rmany;have SF:=za sfit;have SM:=za smany;clear kf rai rao rfit rmany rsz hR sfit smany s0;have H1:=za h1;have ST:=za st;have FQ:=za fq;have QI:=za qi;have KR:=za kr;have KS:=za ks;have I0:=za i0;have O0:=za o0;have HL:=za hL;clear h1 st fq qi kr ks i0 o0 hL h qok hqs ok b0 b1 hrd hn hsz tb hM0 hr hs
 go_enter Tryz.func20,Tryz.ntmps20
 go_wp2_with (with_reducible refine zb 15 rfl (by kernel_rfl) 50 (.tmp 4) rfl (g+1) 0 rfl CC _ (FQ.out _ _ H1.out (by simp)).1 Tryz.underlying50 rfl QI.out ?_)
 go_at_call 42;refine(KR.out _ _ H1.out).mono ?_;rintro e wr ⟨rfl,hr1⟩;have h2:=hr1.perm (L':=(g+2,.cells Tryz.zeroCells47 47 (0,0))::(g+3,.cells Tryz.zeroCells52 52 (0,0))::(g+1,.cells CC 50 (0,0))::(g,.cells M0 47 (0,0))::F) ze;have HR:=za h2;clear hr1 h2 H1;go_wp2_with fail;go_at_call 43;refine(KS.out _ _ HR.out).mono ?_;rintro e wt ⟨rfl,rfl⟩;obtain⟨-,e1,e2,e3,e4⟩:=FQ.out _ _ HR.out (by simp);obtain⟨-,c81,-,c77,c82,c78,c79⟩:=ST.out _ _ HR.out (by simp);go_wp2_with fail;clear e1 e2 e3 e4 c81 c77 c82 c78 c79;have h5:=(HR.out.drew1).perm (L':=(g+2,.cells Tryz.zeroCells47 47 (0,0))::(g+3,.cells Tryz.zeroCells52 52 (0,0))::(g+1,.cells CC 50 (0,0))::(g,.cells M0 47 (0,0))::F) ze;have HDW:=za h5;clear h5;have HUS:=za Tryz.underlying47;have s1:=(ST.out _ _ HDW.out (by simp)).1;refine wp_region_held_drew (S:=fun v=>v.rangeAt g 0 M0.toList) (by kernel_rfl) s1 (fun hHeld=>?_)
 refine tk op0 (v:=?_) (by kernel_rfl) ?_ (by assumption) ?_ fun _ _ _ h=>h
 rotate_left
 ·(((refine yieldsIf_load_mid ?_ 47 (.tmp 3) ?_ (g) 0 ?_ M0.toList _ ?_ HUS.out ?_ I0.out)<;>first|rfl|exact fun w h=>h))
 try simp only[Act.put,pu1,pu2,pu3]
 refine tk op2 (v:=?_) (by kernel_rfl) ?_ (by assumption) ?_ fun _ _ _ h=>h
 rotate_left
 ·(refine ya rfl fun w hSw=>?_;go_simp;rfl)
 try simp only[Act.put,pu1,pu2,pu3]
 refine tk op3 (v:=?_) (by kernel_rfl) ?_ (by assumption) ?_ fun _ _ _ h=>h
 rotate_left
 ·(refine ya rfl fun w hSw=>?_;go_simp;rfl)
 try simp only[Act.put,pu1,pu2,pu3]
 refine rd1 op1 (by kernel_rfl) fun K hK=>?_
 go_simp
 ((go_at_call 45;(with_reducible refine(KF.out _ _ HDW.out).mono ?_);rintro e wx ⟨rfl,hx⟩;dsimp only))
 refine hK.out _ _ ?_ fun hHeld=>?_
 ·(try dsimp only)<;>((exact(ST.out _ _ hx (by simp)).1))
 clear hK K
 try simp only[Act.put,pu1,pu2,pu3]
 refine rd1 op4 (by kernel_rfl) fun K hK=>?_
 ((refine zq rfl 47 (.tmp 6) (.tmp 137) rfl (g:=g+2) (off:=0) M0 rfl rfl hx SF.out I0.out O0.out ?_;intro wa ha;rw[SM.out]at ha;dsimp only))
 refine hK.out _ _ ?_ fun hHeld=>?_
 ·(try dsimp only)<;>((exact(ST.out _ _ ha (by simp)).1))
 clear hK K
 try simp only[Act.put,pu1,pu2,pu3]
 refine rd1 op5 (by kernel_rfl) fun K hK=>?_
 ((refine zq rfl 52 (.tmp 7) (.tmp 138) rfl (g:=g+3) (off:=0) R rfl rfl (ha.perm (L':=(g+3,.cells Tryz.zeroCells52 52 (0,0))::(g+2,.cells M0 47 (0,0))::(g+1,.cells CC 50 (0,0))::(g,.cells M0 47 (0,0))::F) ze) RF.out RAI.out RAO.out ?_;intro wf hf;rw[RM.out]at hf;dsimp only))
 refine hK.out _ _ ?_ fun hHeld=>?_
 ·(try dsimp only)<;>((exact(ST.out _ _ hf (by simp)).1))
 clear hK K
 try simp only[Act.put,pu1,pu2,pu3]
 refine tk op6 (v:=?_) (by kernel_rfl) ?_ (by assumption) ?_ fun _ _ _ h=>h
 rotate_left
 ·(refine ya rfl fun w hSw=>?_;go_simp;rfl)
 try simp only[Act.put,pu1,pu2,pu3]
 refine wpAnyH_done (by kernel_rfl) ?_ _;have HZ:=za hf;clear hf ha hx HDW s1;go_wp2_with fail;refine bodyPost_ret (yq rfl _ _ (g+2) (g+3) 47 52 M0 R (0,0) (0,0) _ _ _ rfl rfl rfl (HZ.out.own (g+2,.cells M0 47 (0,0)) (by simp)) (HZ.out.own (g+3,.cells R 52 (0,0)) (by simp)) Tryz.underlying47 (by kernel_rfl) I0.out Tryz.underlying52 (by kernel_rfl) RAI.out) rfl ?_;exact⟨rfl,HZ.out.weaken (A:=[_,_,_,_])⟩
theorem rfc_six_no {A:Option Addr} (tb:Go.Proofs.YtnjnooeldkideaaGreatDoor.TB W J) (q:Cl) (qok:q.Ok) (hqs:q.name.size≤1000000) (c:Nat) (ok:m.Ok) (b0:0≤m.began) (b1:m.began≤1000000) (hrd:Rd W J Ln 1 A (y2 ns)) (hn:ns.length≤1000) (hsz:∀s∈ns,s.size≤1000000) (hL:∀p∈Ln,p∈F) (store:Int) (h:St W w J F) (hr:y3 q=true) (hs:keptB store=true) (hk:q.kind=6) (hc:m.job.live=false) (hw:(planT m.known).1=-1):Calls Tryz.prog 20 #[.agg (stC m (.slice A ns.length c)),q.val,.int .i64 store] w (DPost W J F (.slice A ns.length c) (failD m 121 store)):=by
 unfold DPost failD;dsimp only;have h1:=(((h.alloc (.cells (stC m (.slice A ns.length c)) 47)).alloc (.cells q.cells 50)).alloc (.cells Tryz.zeroCells47 47)).alloc (.cells Tryz.zeroCells52 52);obtain⟨g,hg⟩:∃g,w.heap.size=g:=⟨_,rfl⟩;simp only[World.size_alloc,hg,Nat.add_assoc,Nat.reduceAdd]at h1;have s0:=zy (nv:=(.slice A ns.length c)) ok;have i0:=zz (nv:=(.slice A ns.length c)) ok;have o0:=ye (m:=m) (nv:=(.slice A ns.length c)) rfl
 have st:=fun(v:World) (X:List (Nat × Obj)) (hv:St W v J X) (hm:(g,Obj.cells (stC m (.slice A ns.length c)) 47 (0,0))∈X)=>(⟨(hv.stt ok hm).all,(hv.stt ok hm).live,(hv.stt ok hm).known,(hv.stt ok hm).number,(hv.stt ok hm).slot,(hv.stt ok hm).state,(hv.stt ok hm).fault⟩:v.rangeAt g 0 (stC m (.slice A ns.length c)).toList∧v.cell? ⟨g,81,none⟩=some (.bool m.job.live)∧v.rangeAt g 0 m.known.cells.toList∧v.cell? ⟨g,77,none⟩=some (.int .i64 m.job.number)∧v.cell? ⟨g,82,none⟩=some (.int .i64 m.job.slot)∧v.cell? ⟨g,78,none⟩=some (.int .i64 m.job.state)∧v.cell? ⟨g,79,none⟩=some (.int .i64 m.job.fault))
 have fq:=fun(v:World) (X:List (Nat × Obj)) (hv:St W v J X) (hm:(g+1,Obj.cells q.cells 50 (0,0))∈X)=>(⟨hv.whole hm,(hv.clf hm).2⟩:v.rangeAt (g+1) 0 q.cells.toList∧v.cell? ⟨g+1,1,none⟩=some (.int .i64 q.kind)∧v.cell? ⟨g+1,2,none⟩=some (.int .i64 q.slot)∧v.cell? ⟨g+1,3,none⟩=some (.int .i64 q.job)∧v.cell? ⟨g+1,4,none⟩=some (.string q.name))
 have qi:=ky q
 have kr:=fun(v:World) (X:List (Nat × Obj)) (hv:St W v J X)=>kq tb q qok hv
 have ks:=fun(v:World) (X:List (Nat × Obj)) (hv:St W v J X)=>y5 store hv
 unfold Cl.val at *
 have kp:=fun(v:World) (X:List (Nat × Obj)) (hv:St W v J X)=>ref12_plan ok.known hv
 have ti:=z7 ok.known;unfold PPost at kp;rw[hc]at st;obtain⟨⟨y,cs⟩,hW⟩:∃z,planT m.known=z:=⟨_,rfl⟩;rw[hW]at kp hw;dsimp only at kp hw;subst hw;unfold Tb.val at *;obtain⟨C,hC⟩:∃C,m.known.cells=C:=⟨_,rfl⟩;rw[hC]at ti st kp;obtain⟨M0,hM0⟩:∃z,stC m (.slice A ns.length c)=z:=⟨_,rfl⟩;rw[hM0]at h1 s0 i0 o0 st ⊢;rw[hr]at kr;rw[hs]at ks;obtain⟨cl,ck,cs0,cj,cn⟩:=q;simp only at hk fq ⊢;subst hk;obtain⟨CC,hCC⟩:∃z,Cl.cells _=z:=⟨(⟨cl,_,cs0,cj,cn⟩:Cl).cells,rfl⟩;rw[hCC]at h1 kr qi fq ⊢
 have kf:=fun(v:World) (X:List (Nat × Obj)) (hv:St W v J X)=>jh (121) hv
 have rsz:=Ry.size (r:=(⟨121,0,0,0,0,zTb⟩:Ry)) zt;have rai:=yu (r:=(⟨121,0,0,0,0,zTb⟩:Ry)) zt;have rao:=Ry.one (⟨121,0,0,0,0,zTb⟩:Ry);obtain⟨R,hR⟩:∃z,(⟨121,0,0,0,0,zTb⟩:Ry).cells=z:=⟨_,rfl⟩;rw[hR]at kf rsz rai rao ⊢;obtain⟨sb,hsb⟩:∃b,(store==0)=b:=⟨_,rfl⟩;rw[hsb]
 have rfit:0+R.size≤Tryz.zeroCells52.size:=by rw[rsz,zry];omega
 have rmany:zg Tryz.zeroCells52 0 R.toList=R:=by rw[zd _ _ (by rw[Array.length_toList,rsz,zry]),Array.toArray_toList]
 have sfit:0+M0.size≤Tryz.zeroCells47.size:=by rw[s0,zst];omega
 have smany:zg Tryz.zeroCells47 0 M0.toList=M0:=by rw[zd _ _ (by rw[Array.length_toList,s0,zst]),Array.toArray_toList]
 have KF:=za kf;have RAI:=za rai;have RAO:=za rao;have RF:=za rfit;have RM:=za rmany;have SF:=za sfit;have SM:=za smany;clear kf rai rao rfit rmany rsz hR sfit smany s0;have KP:=za kp;have TI:=za ti;clear kp ti hC hW;have H1:=za h1;have ST:=za st;have FQ:=za fq;have QI:=za qi;have KR:=za kr;have KS:=za ks;have I0:=za i0;have O0:=za o0;have HL:=za hL;clear h1 st fq qi kr ks i0 o0 hL h qok hqs ok b0 b1 hrd hn hsz tb hM0 hr hs
 go_enter Tryz.func20,Tryz.ntmps20
 go_wp2_with (with_reducible refine zb 15 rfl (by kernel_rfl) 50 (.tmp 4) rfl (g+1) 0 rfl CC _ (FQ.out _ _ H1.out (by simp)).1 Tryz.underlying50 rfl QI.out ?_)
 go_at_call 42;refine(KR.out _ _ H1.out).mono ?_;rintro e wr ⟨rfl,hr1⟩;have h2:=hr1.perm (L':=(g+2,.cells Tryz.zeroCells47 47 (0,0))::(g+3,.cells Tryz.zeroCells52 52 (0,0))::(g+1,.cells CC 50 (0,0))::(g,.cells M0 47 (0,0))::F) ze;have HR:=za h2;clear hr1 h2 H1;go_wp2_with fail;go_at_call 43;refine(KS.out _ _ HR.out).mono ?_;rintro e wt ⟨rfl,rfl⟩;obtain⟨-,e1,e2,e3,e4⟩:=FQ.out _ _ HR.out (by simp);obtain⟨-,c81,-,c77,c82,c78,c79⟩:=ST.out _ _ HR.out (by simp)
 go_wp2_with (with_reducible refine zb 143 rfl (by kernel_rfl) 29 (.tmp 142) rfl g 0 rfl C _ (ST.out _ _ HR.out (by simp)).2.2.1 Tryz.underlying29 rfl TI.out ?_)
 go_at_call 49;refine(KP.out _ _ HR.out).mono ?_;rintro e wg ⟨A1,c1,L,rfl,hr1,hx⟩;have hy:=hx.perm (L':=(g+2,.cells Tryz.zeroCells47 47 (0,0))::(g+3,.cells Tryz.zeroCells52 52 (0,0))::(g+1,.cells CC 50 (0,0))::(g,.cells M0 47 (0,0))::(L++F)) ze;have HG:=za hy;clear hx hy HR;go_wp2_with fail;clear e1 e2 e3 e4 c81 c77 c82 c78 c79;have h5:=(HG.out.drew1).perm (L':=(g+2,.cells Tryz.zeroCells47 47 (0,0))::(g+3,.cells Tryz.zeroCells52 52 (0,0))::(g+1,.cells CC 50 (0,0))::(g,.cells M0 47 (0,0))::(L++F)) ze;have HDW:=za h5;clear h5;have HUS:=za Tryz.underlying47;have s1:=(ST.out _ _ HDW.out (by simp)).1;refine wp_region_held_drew (S:=fun v=>v.rangeAt g 0 M0.toList) (by kernel_rfl) s1 (fun hHeld=>?_)
 refine tk op0 (v:=?_) (by kernel_rfl) ?_ (by assumption) ?_ fun _ _ _ h=>h
 rotate_left
 ·(((refine yieldsIf_load_mid ?_ 47 (.tmp 3) ?_ (g) 0 ?_ M0.toList _ ?_ HUS.out ?_ I0.out)<;>first|rfl|exact fun w h=>h))
 try simp only[Act.put,pu1,pu2,pu3]
 refine tk op2 (v:=?_) (by kernel_rfl) ?_ (by assumption) ?_ fun _ _ _ h=>h
 rotate_left
 ·(refine ya rfl fun w hSw=>?_;go_simp;rfl)
 try simp only[Act.put,pu1,pu2,pu3]
 refine tk op3 (v:=?_) (by kernel_rfl) ?_ (by assumption) ?_ fun _ _ _ h=>h
 rotate_left
 ·(refine ya rfl fun w hSw=>?_;go_simp;rfl)
 try simp only[Act.put,pu1,pu2,pu3]
 refine rd1 op1 (by kernel_rfl) fun K hK=>?_
 go_simp
 ((go_at_call 45;(with_reducible refine(KF.out _ _ HDW.out).mono ?_);rintro e wx ⟨rfl,hx⟩;dsimp only))
 refine hK.out _ _ ?_ fun hHeld=>?_
 ·(try dsimp only)<;>((exact(ST.out _ _ hx (by simp)).1))
 clear hK K
 try simp only[Act.put,pu1,pu2,pu3]
 refine rd1 op4 (by kernel_rfl) fun K hK=>?_
 ((refine zq rfl 47 (.tmp 6) (.tmp 149) rfl (g:=g+2) (off:=0) M0 rfl rfl hx SF.out I0.out O0.out ?_;intro wa ha;rw[SM.out]at ha;dsimp only))
 refine hK.out _ _ ?_ fun hHeld=>?_
 ·(try dsimp only)<;>((exact(ST.out _ _ ha (by simp)).1))
 clear hK K
 try simp only[Act.put,pu1,pu2,pu3]
 refine rd1 op5 (by kernel_rfl) fun K hK=>?_
 ((refine zq rfl 52 (.tmp 7) (.tmp 150) rfl (g:=g+3) (off:=0) R rfl rfl (ha.perm (L':=(g+3,.cells Tryz.zeroCells52 52 (0,0))::(g+2,.cells M0 47 (0,0))::(g+1,.cells CC 50 (0,0))::(g,.cells M0 47 (0,0))::(L++F)) ze) RF.out RAI.out RAO.out ?_;intro wf hf;rw[RM.out]at hf;dsimp only))
 refine hK.out _ _ ?_ fun hHeld=>?_
 ·(try dsimp only)<;>((exact(ST.out _ _ hf (by simp)).1))
 clear hK K
 try simp only[Act.put,pu1,pu2,pu3]
 refine tk op6 (v:=?_) (by kernel_rfl) ?_ (by assumption) ?_ fun _ _ _ h=>h
 rotate_left
 ·(refine ya rfl fun w hSw=>?_;go_simp;rfl)
 try simp only[Act.put,pu1,pu2,pu3]
 refine wpAnyH_done (by kernel_rfl) ?_ _;have HZ:=za hf;clear hf ha hx HDW s1;go_wp2_with fail;refine bodyPost_ret (yq rfl _ _ (g+2) (g+3) 47 52 M0 R (0,0) (0,0) _ _ _ rfl rfl rfl (HZ.out.own (g+2,.cells M0 47 (0,0)) (by simp)) (HZ.out.own (g+3,.cells R 52 (0,0)) (by simp)) Tryz.underlying47 (by kernel_rfl) I0.out Tryz.underlying52 (by kernel_rfl) RAI.out) rfl ?_;refine⟨rfl,St.weaken (A:=(g+3,.cells R 52 (0,0))::(g+2,.cells M0 47 (0,0))::(g+1,.cells CC 50 (0,0))::(g,.cells M0 47 (0,0))::L) (by simpa using HZ.out)⟩
theorem rfc_six {A:Option Addr} (tb:Go.Proofs.YtnjnooeldkideaaGreatDoor.TB W J) (q:Cl) (qok:q.Ok) (hqs:q.name.size≤1000000) (c:Nat) (ok:m.Ok) (b0:0≤m.began) (b1:m.began≤1000000) (hrd:Rd W J Ln 1 A (y2 ns)) (hn:ns.length≤1000) (hsz:∀s∈ns,s.size≤1000000) (hL:∀p∈Ln,p∈F) (store:Int) (h:St W w J F) (hr:y3 q=true) (hs:keptB store=true) (hk:q.kind=6) (hc:m.job.live=false) (hw:(planT m.known).1≠-1):Calls Tryz.prog 20 #[.agg (stC m (.slice A ns.length c)),q.val,.int .i64 store] w (DPost W J F (.slice A ns.length c) (keepD m (rebD m) (planT m.known).2 ⟨0,0,0,(planT m.known).1,0,zTb⟩ store)):=by
 unfold DPost keepD;dsimp only;have h1:=(((h.alloc (.cells (stC m (.slice A ns.length c)) 47)).alloc (.cells q.cells 50)).alloc (.cells Tryz.zeroCells47 47)).alloc (.cells Tryz.zeroCells52 52);obtain⟨g,hg⟩:∃g,w.heap.size=g:=⟨_,rfl⟩;simp only[World.size_alloc,hg,Nat.add_assoc,Nat.reduceAdd]at h1;have s0:=zy (nv:=(.slice A ns.length c)) ok;have i0:=zz (nv:=(.slice A ns.length c)) ok;have o0:=ye (m:=m) (nv:=(.slice A ns.length c)) rfl
 have st:=fun(v:World) (X:List (Nat × Obj)) (hv:St W v J X) (hm:(g,Obj.cells (stC m (.slice A ns.length c)) 47 (0,0))∈X)=>(⟨(hv.stt ok hm).all,(hv.stt ok hm).live,(hv.stt ok hm).known,(hv.stt ok hm).number,(hv.stt ok hm).slot,(hv.stt ok hm).state,(hv.stt ok hm).fault⟩:v.rangeAt g 0 (stC m (.slice A ns.length c)).toList∧v.cell? ⟨g,81,none⟩=some (.bool m.job.live)∧v.rangeAt g 0 m.known.cells.toList∧v.cell? ⟨g,77,none⟩=some (.int .i64 m.job.number)∧v.cell? ⟨g,82,none⟩=some (.int .i64 m.job.slot)∧v.cell? ⟨g,78,none⟩=some (.int .i64 m.job.state)∧v.cell? ⟨g,79,none⟩=some (.int .i64 m.job.fault))
 have fq:=fun(v:World) (X:List (Nat × Obj)) (hv:St W v J X) (hm:(g+1,Obj.cells q.cells 50 (0,0))∈X)=>(⟨hv.whole hm,(hv.clf hm).2⟩:v.rangeAt (g+1) 0 q.cells.toList∧v.cell? ⟨g+1,1,none⟩=some (.int .i64 q.kind)∧v.cell? ⟨g+1,2,none⟩=some (.int .i64 q.slot)∧v.cell? ⟨g+1,3,none⟩=some (.int .i64 q.job)∧v.cell? ⟨g+1,4,none⟩=some (.string q.name))
 have qi:=ky q
 have kr:=fun(v:World) (X:List (Nat × Obj)) (hv:St W v J X)=>kq tb q qok hv
 have ks:=fun(v:World) (X:List (Nat × Obj)) (hv:St W v J X)=>y5 store hv
 unfold Cl.val at *
 have kp:=fun(v:World) (X:List (Nat × Obj)) (hv:St W v J X)=>ref12_plan ok.known hv
 have ti:=z7 ok.known;unfold PPost at kp;have nok:(rebD m).Ok:=rebD_ok ok
 have kk:=fun(A1:Option Addr) (c1:Nat) (L1 X:List (Nat × Obj)) (v:World) (hr:Row 147 40 (.slice A1 (planT m.known).2.length c1) (planT m.known).2.length (cgs (planT m.known).2) L1) (hv:St W v J (L1++X))=>zar (nv:=(.slice A ns.length c)) (m:=m) (m':=rebD m) (r:=⟨0,0,0,(planT m.known).1,0,zTb⟩) (store:=store) rfl ok nok zt (uw ok.known).1 hr (uw ok.known).2 hv
 have p0:=kz m ({ m with job:=⟨0,m.job.state,m.job.fault,m.job.live,m.job.slot,m.job.floor⟩ }:Md) (.slice A ns.length c) (.int .i64 0) 2 ok.known rfl (by decide) rfl;have p1:=kz ({ m with job:=⟨0,m.job.state,m.job.fault,m.job.live,m.job.slot,m.job.floor⟩ }:Md) ({ m with job:=⟨0,0,m.job.fault,m.job.live,m.job.slot,m.job.floor⟩ }:Md) (.slice A ns.length c) (.int .i64 0) 3 ok.known rfl (by decide) rfl;have p2:=kz ({ m with job:=⟨0,0,m.job.fault,m.job.live,m.job.slot,m.job.floor⟩ }:Md) (rebD m) (.slice A ns.length c) (.int .i64 0) 4 ok.known rfl (by decide) rfl;have z0:(stC m (.slice A ns.length c)).size=84:=jj ok.known;have z1:(stC ({ m with job:=⟨0,m.job.state,m.job.fault,m.job.live,m.job.slot,m.job.floor⟩ }:Md) (.slice A ns.length c)).size=84:=jj ok.known;have z2:(stC ({ m with job:=⟨0,0,m.job.fault,m.job.live,m.job.slot,m.job.floor⟩ }:Md) (.slice A ns.length c)).size=84:=jj ok.known;have i3:=zz (nv:=(.slice A ns.length c)) nok
 have e3x:=fun(v:World) (X:List (Nat × Obj)) (b:Nat) (hv:St W v J X) (hm:(b,Obj.cells (stC (rebD m) (.slice A ns.length c)) 47 (0,0))∈X)=>(hv.stt nok hm).all
 have pok:=u2 (r:=⟨0,0,0,(planT m.known).1,0,zTb⟩) (store:=store) ok nok (uw ok.known).1 zt;have ps:=zy (nv:=(.slice A ns.length c)) pok.1;have pi:=zz (nv:=(.slice A ns.length c)) pok.1;have po:=ye (m:=(keepM m (rebD m) (planT m.known).2 ⟨0,0,0,(planT m.known).1,0,zTb⟩ store).1) (nv:=(.slice A ns.length c)) rfl;have rs:=Ry.size pok.2;have ri:=yu pok.2;have ro:=Ry.one (keepM m (rebD m) (planT m.known).2 ⟨0,0,0,(planT m.known).1,0,zTb⟩ store).2;obtain⟨P,hP⟩:∃z,keepM m (rebD m) (planT m.known).2 ⟨0,0,0,(planT m.known).1,0,zTb⟩ store=z:=⟨_,rfl⟩;rw[hP]at kk ps pi po rs ri ro ⊢;obtain⟨M8,hM8⟩:∃z,stC P.1 (.slice A ns.length c)=z:=⟨_,rfl⟩;obtain⟨R8,hR8⟩:∃z,P.2.cells=z:=⟨_,rfl⟩;rw[hM8]at kk ps pi po ⊢;rw[hR8]at kk rs ri ro ⊢;have bz:=run_build_rslot (planT m.known).1;obtain⟨R0,hR0⟩:∃z,(⟨0,0,0,(planT m.known).1,0,zTb⟩:Ry).cells=z:=⟨_,rfl⟩;rw[hR0]at bz kk;obtain⟨M1,hM1⟩:∃z,stC ({ m with job:=⟨0,m.job.state,m.job.fault,m.job.live,m.job.slot,m.job.floor⟩ }:Md) (.slice A ns.length c)=z:=⟨_,rfl⟩;obtain⟨M2,hM2⟩:∃z,stC ({ m with job:=⟨0,0,m.job.fault,m.job.live,m.job.slot,m.job.floor⟩ }:Md) (.slice A ns.length c)=z:=⟨_,rfl⟩;obtain⟨M3,hM3⟩:∃z,stC (rebD m) (.slice A ns.length c)=z:=⟨_,rfl⟩;rw[hM1]at p0 p1 z1;rw[hM2]at p1 p2 z2;rw[hM3]at p2 i3 e3x kk;rw[hc]at st;obtain⟨⟨y,cs⟩,hW⟩:∃z,planT m.known=z:=⟨_,rfl⟩;rw[hW]at kp hw kk bz;dsimp only at kp hw kk bz
 have hwb:(y==-1)=false:=by simpa using hw
 unfold Tb.val at *;obtain⟨C,hC⟩:∃C,m.known.cells=C:=⟨_,rfl⟩;rw[hC]at ti st kp;obtain⟨M0,hM0⟩:∃z,stC m (.slice A ns.length c)=z:=⟨_,rfl⟩;rw[hM0]at h1 s0 i0 o0 st kk p0 z0 ⊢;rw[hr]at kr;rw[hs]at ks;obtain⟨cl,ck,cs0,cj,cn⟩:=q;simp only at hk fq ⊢;subst hk;obtain⟨CC,hCC⟩:∃z,Cl.cells _=z:=⟨(⟨cl,_,cs0,cj,cn⟩:Cl).cells,rfl⟩;rw[hCC]at h1 kr qi fq ⊢
 have sfit:0+M0.size≤Tryz.zeroCells47.size:=by rw[s0,zst];omega
 have smany:zg Tryz.zeroCells47 0 M0.toList=M0:=by rw[zd _ _ (by rw[Array.length_toList,s0,zst]),Array.toArray_toList]
 have SF:=za sfit;have SM:=za smany;have P0:=za p0;have P1:=za p1;have P2:=za p2;have I3:=za i3;have E3X:=za e3x;have BZ:=za bz;have KP:=za kp;have TI:=za ti;have Z0:=za (show 77 < M0.size by rw[z0];decide);have Z1:=za (show 78 < M1.size by rw[z1];decide);have Z2:=za (show 79 < M2.size by rw[z2];decide);have I1:=za (show(Tryz.prog.info? 3).map (·.size)=some 1 by kernel_rfl);have IE:=za (show(Tryz.prog.info? 37).map (·.size)=some 1 by kernel_rfl);clear sfit smany p0 p1 p2 z0 z1 z2 i3 e3x bz kp ti hM1 hM2 hM3 hR0 hC hW hw nok
 have sfit8:0+M8.size≤Tryz.zeroCells47.size:=by rw[ps,zst];omega
 have smany8:zg Tryz.zeroCells47 0 M8.toList=M8:=by rw[zd _ _ (by rw[Array.length_toList,ps,zst]),Array.toArray_toList]
 have rfit8:0+R8.size≤Tryz.zeroCells52.size:=by rw[rs,zry];omega
 have rmany8:zg Tryz.zeroCells52 0 R8.toList=R8:=by rw[zd _ _ (by rw[Array.length_toList,rs,zry]),Array.toArray_toList]
 have KK:=za kk;have PI:=za pi;have PO:=za po;have RI:=za ri;have RO:=za ro;have SF8:=za sfit8;have SM8:=za smany8;have RF8:=za rfit8;have RM8:=za rmany8;clear kk pi po ri ro sfit8 smany8 rfit8 rmany8 ps rs hM8 hR8;clear pok hP s0;have H1:=za h1;have ST:=za st;have FQ:=za fq;have QI:=za qi;have KR:=za kr;have KS:=za ks;have I0:=za i0;have O0:=za o0;have HL:=za hL;clear h1 st fq qi kr ks i0 o0 hL h qok hqs ok b0 b1 hrd hn hsz tb hM0 hr hs
 go_enter Tryz.func20,Tryz.ntmps20
 go_wp2_with (with_reducible refine zb 15 rfl (by kernel_rfl) 50 (.tmp 4) rfl (g+1) 0 rfl CC _ (FQ.out _ _ H1.out (by simp)).1 Tryz.underlying50 rfl QI.out ?_)
 go_at_call 42;refine(KR.out _ _ H1.out).mono ?_;rintro e wr ⟨rfl,hr1⟩;have h2:=hr1.perm (L':=(g+2,.cells Tryz.zeroCells47 47 (0,0))::(g+3,.cells Tryz.zeroCells52 52 (0,0))::(g+1,.cells CC 50 (0,0))::(g,.cells M0 47 (0,0))::F) ze;have HR:=za h2;clear hr1 h2 H1;go_wp2_with fail;go_at_call 43;refine(KS.out _ _ HR.out).mono ?_;rintro e wt ⟨rfl,rfl⟩;obtain⟨-,e1,e2,e3,e4⟩:=FQ.out _ _ HR.out (by simp);obtain⟨-,c81,-,c77,c82,c78,c79⟩:=ST.out _ _ HR.out (by simp)
 go_wp2_with (with_reducible refine zb 143 rfl (by kernel_rfl) 29 (.tmp 142) rfl g 0 rfl C _ (ST.out _ _ HR.out (by simp)).2.2.1 Tryz.underlying29 rfl TI.out ?_)
 go_at_call 49;refine(KP.out _ _ HR.out).mono ?_;rintro e wg ⟨A1,c1,L,rfl,hr1,hx⟩;have hy:=hx.perm (L':=(g+2,.cells Tryz.zeroCells47 47 (0,0))::(g+3,.cells Tryz.zeroCells52 52 (0,0))::(g+1,.cells CC 50 (0,0))::(g,.cells M0 47 (0,0))::(L++F)) ze;have HG:=za hy;clear hx hy HR;obtain⟨-,e1,e2,e3,e4⟩:=FQ.out _ _ HG.out (by simp);have hn:=HG.out.alloc (.cells Tryz.zeroCells47 47);have HN:=za hn;clear hn
 go_wp2_with (first|(with_reducible refine zb 153 rfl (by kernel_rfl) 47 (.tmp 3) rfl g 0 rfl M0 _ (ST.out _ _ HG.out (by simp)).1 Tryz.underlying47 rfl I0.out ?_)|(with_reducible refine zc rfl 47 (.tmp 14) (.tmp 153) rfl (g:=wg.heap.size) (off:=0) M0 rfl rfl HN.out SF.out I0.out O0.out ?_;intro w3 h3;refine Hid.out ?_))
 refine za ?_;rw[SM.out]at h3;obtain⟨gx,hgx⟩:∃y,wg.heap.size=y:=⟨_,rfl⟩;rw[hgx]at h3 ⊢;have H3:=za h3;clear h3 HN HG hgx;clear e1 e2 e3 e4 c81 c77 c82 c78 c79
 go_wp2_with (with_reducible refine zk rfl 3 (.tmp 154) (.const (.int .i64 0)) rfl (g:=gx) (off:=77) (.int .i64 0) rfl rfl rfl H3.out Z0.out I1.out rfl ?_;intro w5 h5;refine Hid.out ?_)
 refine za ?_;rw[show zg M0 77 [.int .i64 0]=M1 from P0.out]at h5;have H4:=za h5;clear h5 H3
 go_wp2_with (with_reducible refine zk rfl 3 (.tmp 155) (.const (.int .i64 0)) rfl (g:=gx) (off:=78) (.int .i64 0) rfl rfl rfl H4.out Z1.out I1.out rfl ?_;intro w5 h5;refine Hid.out ?_)
 refine za ?_;rw[show zg M1 78 [.int .i64 0]=M2 from P1.out]at h5;have H5:=za h5;clear h5 H4
 go_wp2_with (with_reducible refine zk rfl 37 (.tmp 156) (.const (.int .i64 0)) rfl (g:=gx) (off:=79) (.int .i64 0) rfl rfl rfl H5.out Z2.out IE.out rfl ?_;intro w5 h5;refine Hid.out ?_)
 refine za ?_;rw[show zg M2 79 [.int .i64 0]=M3 from P2.out]at h5;have H6:=za h5;clear h5 H5;have HKK:=za (KK.out _ _ L ((g+2,.cells Tryz.zeroCells47 47 (0,0))::(g+3,.cells Tryz.zeroCells52 52 (0,0))::(g+1,.cells CC 50 (0,0))::(g,.cells M0 47 (0,0))::(gx,.cells M3 47 (0,0))::F) _ hr1 (H6.out.perm ze))
 go_wp2_with (first|(with_reducible refine zb 157 rfl (by kernel_rfl) 47 (.tmp 3) rfl g 0 rfl M0 _ (ST.out _ _ H6.out (by simp)).1 Tryz.underlying47 rfl I0.out ?_)|(with_reducible refine zb 158 rfl (by kernel_rfl) 47 (.tmp 14) rfl gx 0 rfl M3 _ (E3X.out _ _ gx H6.out (by simp)) Tryz.underlying47 rfl I3.out ?_)|(with_reducible refine zh rfl 52 _ rfl _ ?_ (BZ.out _) ?_;·go_simp))
 go_at_call 48;refine HKK.out.mono ?_;rintro e wk ⟨rfl,hk⟩;clear HKK;have hk2:=(hk).perm (L':=(g+2,.cells Tryz.zeroCells47 47 (0,0))::(g+3,.cells Tryz.zeroCells52 52 (0,0))::(gx,.cells M3 47 (0,0))::(g+1,.cells CC 50 (0,0))::(g,.cells M0 47 (0,0))::(L++F)) ze;have HK:=za hk2;clear hk2
 go_wp2_with (with_reducible refine zc rfl 47 (.tmp 6) (.tmp 164) rfl (g:=g+2) (off:=0) M8 rfl rfl HK.out SF8.out PI.out PO.out ?_;intro w6 h6;refine Hid.out ?_)
 refine za ?_;rw[SM8.out]at h6;have h7:=h6.perm (L':=(g+3,.cells Tryz.zeroCells52 52 (0,0))::(g+2,.cells M8 47 (0,0))::(gx,.cells M3 47 (0,0))::(g+1,.cells CC 50 (0,0))::(g,.cells M0 47 (0,0))::(L++F)) ze;have H7:=za h7;clear h6 h7 HK
 go_wp2_with (with_reducible refine zc rfl 52 (.tmp 7) (.tmp 165) rfl (g:=g+3) (off:=0) R8 rfl rfl H7.out RF8.out RI.out RO.out ?_;intro w8 h8;refine Hid.out ?_)
 refine za ?_;rw[RM8.out]at h8;have HZ:=za h8;clear h8 H7;go_wp2_with fail;refine bodyPost_ret (yq rfl _ _ (g+2) (g+3) 47 52 M8 R8 (0,0) (0,0) _ _ _ rfl rfl rfl (HZ.out.own (g+2,.cells M8 47 (0,0)) (by simp)) (HZ.out.own (g+3,.cells R8 52 (0,0)) (by simp)) Tryz.underlying47 (by kernel_rfl) PI.out Tryz.underlying52 (by kernel_rfl) RI.out) rfl ?_;exact⟨rfl,St.weaken (A:=(g+3,.cells R8 52 (0,0))::(g+2,.cells M8 47 (0,0))::(gx,.cells M3 47 (0,0))::(g+1,.cells CC 50 (0,0))::(g,.cells M0 47 (0,0))::L) (by simpa using HZ.out)⟩
def callD (m:Md) (ns:List ByteArray) (q:Cl) (store:Int):Md × Ry × Bool:=
 if (y3 q&&keptB store)=false then (m,zRy,false)
 else if q.kind=1 then instD m ns q.name store
 else if q.kind=2 then (if (!m.job.live||(q.job != 0&&q.job != m.job.number))=true then failD m 252 store else ({ m with job:={ m.job with live:=false,state:=4 } },zRy,store==0))
 else if q.kind=3 then (m,⟨0,m.job.number,m.job.state,0,m.job.fault,m.known⟩,store==0)
 else if q.kind=4 then (if (goodT m.known q.slot).2≠0 then failD m (goodT m.known q.slot).2 store else keepD m m (goodT m.known q.slot).1 zRy store)
 else if q.kind=5 then (if (m.job.live&&q.slot==m.job.slot)=true then failD m 251 store else if (badT m.known q.slot).2≠0 then failD m (badT m.known q.slot).2 store else keepD m m (badT m.known q.slot).1 zRy store)
 else if m.job.live=true then failD m 251 store else if (planT m.known).1=-1 then failD m 121 store else keepD m (rebD m) (planT m.known).2 ⟨0,0,0,(planT m.known).1,0,zTb⟩ store
theorem right_six {q:Cl} (hr:y3 q=true) (h1:q.kind≠1) (h2:q.kind≠2) (h3:q.kind≠3) (h4:q.kind≠4) (h5:q.kind≠5):q.kind=6:=by
 unfold y3 at hr;rw[if_neg h1,if_neg h2]at hr
 by_cases h6:q.kind=6
 ·exact h6
 ·rw[if_neg (by omega),if_neg (by omega),Bool.and_false]at hr
  cases hr
theorem zbq {A:Option Addr} (tb:Go.Proofs.YtnjnooeldkideaaGreatDoor.TB W J) (q:Cl) (qok:q.Ok) (hqs:q.name.size≤1000000) (c:Nat) (ok:m.Ok) (b0:0≤m.began) (b1:m.began≤1000000) (hrd:Rd W J Ln 1 A (y2 ns)) (hn:ns.length≤1000) (hsz:∀s∈ns,s.size≤1000000) (hL:∀p∈Ln,p∈F) (store:Int) (h:St W w J F):Calls Tryz.prog 20 #[.agg (stC m (.slice A ns.length c)),q.val,.int .i64 store] w (DPost W J F (.slice A ns.length c) (callD m ns q store)):=by
 unfold callD
 by_cases hrs:(y3 q&&keptB store)=false
 ·rw[if_pos hrs]
  exact rfc_none tb q qok hqs c ok b0 b1 hrd hn hsz hL store h (fun hr=>by rw[hr,Bool.true_and]at hrs;exact hrs)
 rw[if_neg hrs]
 have hrs:(y3 q&&keptB store)=true:=by simpa using hrs
 rw[Bool.and_eq_true]at hrs;obtain⟨hr,hs⟩:=hrs
 by_cases h1:q.kind=1
 ·rw[if_pos h1];exact rfc_one tb q qok hqs c ok b0 b1 hrd hn hsz hL store h hr hs h1
 rw[if_neg h1]
 by_cases h2:q.kind=2
 ·rw[if_pos h2]
  cases hc:(!m.job.live||(q.job != 0&&q.job != m.job.number)) with
  | true=>rw[if_pos rfl];exact rfc_two_no tb q qok hqs c ok b0 b1 hrd hn hsz hL store h hr hs h2 hc
  | false=>rw[if_neg (by decide)];exact rfc_two tb q qok hqs c ok b0 b1 hrd hn hsz hL store h hr hs h2 hc
 rw[if_neg h2]
 by_cases h3:q.kind=3
 ·rw[if_pos h3];exact rfc_three tb q qok hqs c ok b0 b1 hrd hn hsz hL store h hr hs h3
 rw[if_neg h3]
 by_cases h4:q.kind=4
 ·rw[if_pos h4]
  by_cases hw:(goodT m.known q.slot).2=0
  ·rw[if_neg (fun h=>h hw)];exact rfc_four tb q qok hqs c ok b0 b1 hrd hn hsz hL store h hr hs h4 hw
  ·rw[if_pos hw];exact rfc_four_no tb q qok hqs c ok b0 b1 hrd hn hsz hL store h hr hs h4 hw
 rw[if_neg h4]
 by_cases h5:q.kind=5
 ·rw[if_pos h5]
  cases hc:(m.job.live&&q.slot==m.job.slot) with
  | true=>rw[if_pos rfl];exact rfc_five_busy tb q qok hqs c ok b0 b1 hrd hn hsz hL store h hr hs h5 hc
  | false=>
   rw[if_neg (by decide)]
   by_cases hw:(badT m.known q.slot).2=0
   ·rw[if_neg (fun h=>h hw)];exact rfc_five tb q qok hqs c ok b0 b1 hrd hn hsz hL store h hr hs h5 hc hw
   ·rw[if_pos hw];exact rfc_five_no tb q qok hqs c ok b0 b1 hrd hn hsz hL store h hr hs h5 hc hw
 rw[if_neg h5];have h6:=right_six hr h1 h2 h3 h4 h5
 cases hc:m.job.live with
 | true=>rw[if_pos rfl];exact rfc_six_busy tb q qok hqs c ok b0 b1 hrd hn hsz hL store h hr hs h6 hc
 | false=>
  rw[if_neg (by decide)]
  by_cases hw:(planT m.known).1=-1
  ·rw[if_pos hw];exact rfc_six_no tb q qok hqs c ok b0 b1 hrd hn hsz hL store h hr hs h6 hc hw
  ·rw[if_neg hw];exact rfc_six tb q qok hqs c ok b0 b1 hrd hn hsz hL store h hr hs h6 hc hw
end
end Go.Proofs.YtnjnooeldkideaaGreatDoor
