/- order: the document's Call: install, what the job is, good and bad. -/
import Derived.Test.YtnjnooeldkideaaGreatDoorRfC
import Derived.Test.YtnjnooeldkideaaGreatDoorOrAs
import Derived.Test.YtnjnooeldkideaaGreatDoorMOrT
namespace Go.Proofs.YtnjnooeldkideaaGreatDoor
set_option maxRecDepth 100000
set_option maxHeartbeats 8000000
set_option linter.unusedVariables false
set_option linter.unusedSimpArgs false
open Go.RowKit Go.Lib Go.Deep
section
variable {W w:World} {J:Nat→Option Obj} {t:Tb} {F:List (Nat × Obj)}
variable {m:Md} {nv:Value} {ns:List ByteArray} {Ln:List (Nat × Obj)}
theorem nextI_ok (ok:m.Ok) (b0:0≤m.began) (b1:m.began≤1000000):(nextI m).Ok:=by
 have b0':(-9223372036854775808:Int)≤m.began+1:=by omega
 have b1':m.began+1≤(9223372036854775807:Int):=by omega
 have q0:=(ue m.known).1;have q1:=(ue m.known).2;exact⟨ok.known,ok.t0,ok.t1,ql b0' b1' (by decide) (by decide) (by decide) (by decide) (by omega) (by omega) ok.known.f0 ok.known.f1,b0',b1'⟩
theorem instD_ok {x:ByteArray} {store:Int} (ok:m.Ok) (b0:0≤m.began) (b1:m.began≤1000000):(instD m ns x store).1.Ok∧(instD m ns x store).2.1.t.Ok:=by
 unfold instD
 split
 ·exact⟨ok,zt⟩
 ·split
  ·exact⟨ok,zt⟩
  ·split
   ·exact⟨ok,zt⟩
   ·exact u2 ok (nextI_ok ok b0 b1) (zad ok.known).1 zt
theorem rfc_one {A:Option Addr} (tb:Go.Proofs.YtnjnooeldkideaaGreatDoor.TB W J) (q:Cl) (qok:q.Ok) (hqs:q.name.size≤1000000) (c:Nat) (ok:m.Ok) (b0:0≤m.began) (b1:m.began≤1000000) (hrd:Rd W J Ln 1 A (y2 ns)) (hn:ns.length≤1000) (hsz:∀s∈ns,s.size≤1000000) (hL:∀p∈Ln,p∈F) (store:Int) (h:St W w J F) (hr:y3 q=true) (hs:keptB store=true) (hk:q.kind=1):Calls Tryz.prog 20 #[.agg (stC m (.slice A ns.length c)),q.val,.int .i64 store] w (DPost W J F (.slice A ns.length c) (instD m ns q.name store)):=by
 unfold DPost;have h1:=(((h.alloc (.cells (stC m (.slice A ns.length c)) 47)).alloc (.cells q.cells 50)).alloc (.cells Tryz.zeroCells47 47)).alloc (.cells Tryz.zeroCells52 52);obtain⟨g,hg⟩:∃g,w.heap.size=g:=⟨_,rfl⟩;simp only[World.size_alloc,hg,Nat.add_assoc,Nat.reduceAdd]at h1;have s0:=zy (nv:=(.slice A ns.length c)) ok;have i0:=zz (nv:=(.slice A ns.length c)) ok;have o0:=ye (m:=m) (nv:=(.slice A ns.length c)) rfl
 have st:=fun(v:World) (X:List (Nat × Obj)) (hv:St W v J X) (hm:(g,Obj.cells (stC m (.slice A ns.length c)) 47 (0,0))∈X)=>(⟨(hv.stt ok hm).all,(hv.stt ok hm).live,(hv.stt ok hm).known,(hv.stt ok hm).number,(hv.stt ok hm).slot,(hv.stt ok hm).state,(hv.stt ok hm).fault⟩:v.rangeAt g 0 (stC m (.slice A ns.length c)).toList∧v.cell? ⟨g,81,none⟩=some (.bool m.job.live)∧v.rangeAt g 0 m.known.cells.toList∧v.cell? ⟨g,77,none⟩=some (.int .i64 m.job.number)∧v.cell? ⟨g,82,none⟩=some (.int .i64 m.job.slot)∧v.cell? ⟨g,78,none⟩=some (.int .i64 m.job.state)∧v.cell? ⟨g,79,none⟩=some (.int .i64 m.job.fault))
 have fq:=fun(v:World) (X:List (Nat × Obj)) (hv:St W v J X) (hm:(g+1,Obj.cells q.cells 50 (0,0))∈X)=>(⟨hv.whole hm,(hv.clf hm).2⟩:v.rangeAt (g+1) 0 q.cells.toList∧v.cell? ⟨g+1,1,none⟩=some (.int .i64 q.kind)∧v.cell? ⟨g+1,2,none⟩=some (.int .i64 q.slot)∧v.cell? ⟨g+1,3,none⟩=some (.int .i64 q.job)∧v.cell? ⟨g+1,4,none⟩=some (.string q.name))
 have qi:=ky q
 have kr:=fun(v:World) (X:List (Nat × Obj)) (hv:St W v J X)=>kq tb q qok hv
 have ks:=fun(v:World) (X:List (Nat × Obj)) (hv:St W v J X)=>y5 store hv
 unfold Cl.val at *
 have kk:=fun(v:World) (X:List (Nat × Obj)) (hp:∀p∈Ln,p∈X) (hv:St W v J X)=>r26_install tb q.name hqs c ok hrd hn hsz hp store hv b0 b1
 unfold DPost at kk;have pok:=instD_ok (x:=q.name) (ns:=ns) (store:=store) ok b0 b1;have ps:=zy (nv:=(.slice A ns.length c)) pok.1;have pi:=zz (nv:=(.slice A ns.length c)) pok.1;have po:=ye (m:=(instD m ns q.name store).1) (nv:=(.slice A ns.length c)) rfl;have rs:=Ry.size pok.2;have ri:=yu pok.2;have ro:=Ry.one (instD m ns q.name store).2.1;obtain⟨⟨p1,p2,p3⟩,hP⟩:∃z,instD m ns q.name store=z:=⟨_,rfl⟩;rw[hP]at kk ps pi po rs ri ro ⊢;dsimp only at kk ps pi po rs ri ro ⊢;obtain⟨M8,hM8⟩:∃z,stC p1 (.slice A ns.length c)=z:=⟨_,rfl⟩;obtain⟨R8,hR8⟩:∃z,p2.cells=z:=⟨_,rfl⟩;rw[hM8]at kk ps pi po ⊢;rw[hR8]at kk rs ri ro ⊢;obtain⟨M0,hM0⟩:∃z,stC m (.slice A ns.length c)=z:=⟨_,rfl⟩;rw[hM0]at h1 s0 i0 o0 st kk ⊢;rw[hr]at kr;rw[hs]at ks;obtain⟨cl,ck,cs0,cj,cn⟩:=q;simp only at hk fq kk ⊢;subst hk;obtain⟨CC,hCC⟩:∃z,Cl.cells _=z:=⟨(⟨cl,_,cs0,cj,cn⟩:Cl).cells,rfl⟩;rw[hCC]at h1 kr qi fq ⊢
 have sfit8:0+M8.size≤Tryz.zeroCells47.size:=by rw[ps,zst];omega
 have smany8:zg Tryz.zeroCells47 0 M8.toList=M8:=by rw[zd _ _ (by rw[Array.length_toList,ps,zst]),Array.toArray_toList]
 have rfit8:0+R8.size≤Tryz.zeroCells52.size:=by rw[rs,zry];omega
 have rmany8:zg Tryz.zeroCells52 0 R8.toList=R8:=by rw[zd _ _ (by rw[Array.length_toList,rs,zry]),Array.toArray_toList]
 have KK:=za kk;have PI:=za pi;have PO:=za po;have RI:=za ri;have RO:=za ro;have SF8:=za sfit8;have SM8:=za smany8;have RF8:=za rfit8;have RM8:=za rmany8;clear kk pi po ri ro sfit8 smany8 rfit8 rmany8 ps rs hM8 hR8;clear hP pok;have H1:=za h1;have ST:=za st;have FQ:=za fq;have QI:=za qi;have KR:=za kr;have KS:=za ks;have I0:=za i0;have O0:=za o0;have HL:=za hL;clear h1 st fq qi kr ks i0 o0 hL h qok hqs ok b0 b1 hrd hn hsz tb hM0 hr hs
 go_enter Tryz.func20,Tryz.ntmps20
 go_wp2_with (with_reducible refine zb 15 rfl (by kernel_rfl) 50 (.tmp 4) rfl (g+1) 0 rfl CC _ (FQ.out _ _ H1.out (by simp)).1 Tryz.underlying50 rfl QI.out ?_)
 go_at_call 42;refine(KR.out _ _ H1.out).mono ?_;rintro e wr ⟨rfl,hr1⟩;have h2:=hr1.perm (L':=(g+2,.cells Tryz.zeroCells47 47 (0,0))::(g+3,.cells Tryz.zeroCells52 52 (0,0))::(g+1,.cells CC 50 (0,0))::(g,.cells M0 47 (0,0))::F) ze;have HR:=za h2;clear hr1 h2 H1;go_wp2_with fail;go_at_call 43;refine(KS.out _ _ HR.out).mono ?_;rintro e wt ⟨rfl,rfl⟩;obtain⟨-,e1,e2,e3,e4⟩:=FQ.out _ _ HR.out (by simp);obtain⟨-,c81,-,c77,c82,c78,c79⟩:=ST.out _ _ HR.out (by simp)
 go_wp2_with (with_reducible refine zb 29 rfl (by kernel_rfl) 47 (.tmp 3) rfl g 0 rfl M0 _ (ST.out _ _ HR.out (by simp)).1 Tryz.underlying47 rfl I0.out ?_)
 go_at_call 44;refine(KK.out _ _ (fun p hp=>by simp[HL.out p hp]) HR.out).mono ?_;rintro e wk ⟨rfl,hk⟩;clear e1 e2 e3 e4 c81 c77 c82 c78 c79;have hk2:=(hk).perm (L':=(g+2,.cells Tryz.zeroCells47 47 (0,0))::(g+3,.cells Tryz.zeroCells52 52 (0,0))::(g+1,.cells CC 50 (0,0))::(g,.cells M0 47 (0,0))::F) ze;have HK:=za hk2;clear hk2
 go_wp2_with (with_reducible refine zc rfl 47 (.tmp 6) (.tmp 34) rfl (g:=g+2) (off:=0) M8 rfl rfl HK.out SF8.out PI.out PO.out ?_;intro w6 h6;refine Hid.out ?_)
 refine za ?_;rw[SM8.out]at h6;have h7:=h6.perm (L':=(g+3,.cells Tryz.zeroCells52 52 (0,0))::(g+2,.cells M8 47 (0,0))::(g+1,.cells CC 50 (0,0))::(g,.cells M0 47 (0,0))::F) ze;have H7:=za h7;clear h6 h7 HK
 go_wp2_with (with_reducible refine zc rfl 52 (.tmp 7) (.tmp 35) rfl (g:=g+3) (off:=0) R8 rfl rfl H7.out RF8.out RI.out RO.out ?_;intro w8 h8;refine Hid.out ?_)
 refine za ?_;rw[RM8.out]at h8;have HZ:=za h8;clear h8 H7;go_wp2_with fail;refine bodyPost_ret (yq rfl _ _ (g+2) (g+3) 47 52 M8 R8 (0,0) (0,0) _ _ _ rfl rfl rfl (HZ.out.own (g+2,.cells M8 47 (0,0)) (by simp)) (HZ.out.own (g+3,.cells R8 52 (0,0)) (by simp)) Tryz.underlying47 (by kernel_rfl) PI.out Tryz.underlying52 (by kernel_rfl) RI.out) rfl ?_;exact⟨rfl,St.weaken (A:=(g+3,.cells R8 52 (0,0))::(g+2,.cells M8 47 (0,0))::(g+1,.cells CC 50 (0,0))::(g,.cells M0 47 (0,0))::[]) (by simpa using HZ.out)⟩
theorem rfc_three {A:Option Addr} (tb:Go.Proofs.YtnjnooeldkideaaGreatDoor.TB W J) (q:Cl) (qok:q.Ok) (hqs:q.name.size≤1000000) (c:Nat) (ok:m.Ok) (b0:0≤m.began) (b1:m.began≤1000000) (hrd:Rd W J Ln 1 A (y2 ns)) (hn:ns.length≤1000) (hsz:∀s∈ns,s.size≤1000000) (hL:∀p∈Ln,p∈F) (store:Int) (h:St W w J F) (hr:y3 q=true) (hs:keptB store=true) (hk:q.kind=3):Calls Tryz.prog 20 #[.agg (stC m (.slice A ns.length c)),q.val,.int .i64 store] w (DPost W J F (.slice A ns.length c) (m,⟨0,m.job.number,m.job.state,0,m.job.fault,m.known⟩,store==0)):=by
 unfold DPost;dsimp only;have h1:=(((h.alloc (.cells (stC m (.slice A ns.length c)) 47)).alloc (.cells q.cells 50)).alloc (.cells Tryz.zeroCells47 47)).alloc (.cells Tryz.zeroCells52 52);obtain⟨g,hg⟩:∃g,w.heap.size=g:=⟨_,rfl⟩;simp only[World.size_alloc,hg,Nat.add_assoc,Nat.reduceAdd]at h1;have s0:=zy (nv:=(.slice A ns.length c)) ok;have i0:=zz (nv:=(.slice A ns.length c)) ok;have o0:=ye (m:=m) (nv:=(.slice A ns.length c)) rfl
 have st:=fun(v:World) (X:List (Nat × Obj)) (hv:St W v J X) (hm:(g,Obj.cells (stC m (.slice A ns.length c)) 47 (0,0))∈X)=>(⟨(hv.stt ok hm).all,(hv.stt ok hm).live,(hv.stt ok hm).known,(hv.stt ok hm).number,(hv.stt ok hm).slot,(hv.stt ok hm).state,(hv.stt ok hm).fault⟩:v.rangeAt g 0 (stC m (.slice A ns.length c)).toList∧v.cell? ⟨g,81,none⟩=some (.bool m.job.live)∧v.rangeAt g 0 m.known.cells.toList∧v.cell? ⟨g,77,none⟩=some (.int .i64 m.job.number)∧v.cell? ⟨g,82,none⟩=some (.int .i64 m.job.slot)∧v.cell? ⟨g,78,none⟩=some (.int .i64 m.job.state)∧v.cell? ⟨g,79,none⟩=some (.int .i64 m.job.fault))
 have fq:=fun(v:World) (X:List (Nat × Obj)) (hv:St W v J X) (hm:(g+1,Obj.cells q.cells 50 (0,0))∈X)=>(⟨hv.whole hm,(hv.clf hm).2⟩:v.rangeAt (g+1) 0 q.cells.toList∧v.cell? ⟨g+1,1,none⟩=some (.int .i64 q.kind)∧v.cell? ⟨g+1,2,none⟩=some (.int .i64 q.slot)∧v.cell? ⟨g+1,3,none⟩=some (.int .i64 q.job)∧v.cell? ⟨g+1,4,none⟩=some (.string q.name))
 have qi:=ky q
 have kr:=fun(v:World) (X:List (Nat × Obj)) (hv:St W v J X)=>kq tb q qok hv
 have ks:=fun(v:World) (X:List (Nat × Obj)) (hv:St W v J X)=>y5 store hv
 unfold Cl.val at *;have rf:=rep_fold m.job.number m.job.state m.job.fault m.known ok.known;have ts:=Tb.size ok.known;have ti:=z7 ok.known;have rsz:=Ry.size (r:=(⟨0,m.job.number,m.job.state,0,m.job.fault,m.known⟩:Ry)) ok.known;have rai:=yu (r:=(⟨0,m.job.number,m.job.state,0,m.job.fault,m.known⟩:Ry)) ok.known;have rao:=Ry.one (⟨0,m.job.number,m.job.state,0,m.job.fault,m.known⟩:Ry);obtain⟨R,hR⟩:∃z,(⟨0,m.job.number,m.job.state,0,m.job.fault,m.known⟩:Ry).cells=z:=⟨_,rfl⟩;rw[hR]at rf rsz rai rao ⊢;obtain⟨CT,hCT⟩:∃z,m.known.cells=z:=⟨_,rfl⟩;have rfx:=rf CT hCT;obtain⟨jn,hjn⟩:∃b,m.job.number=b:=⟨_,rfl⟩;obtain⟨js,hjs⟩:∃b,m.job.state=b:=⟨_,rfl⟩;obtain⟨jf,hjf⟩:∃b,m.job.fault=b:=⟨_,rfl⟩;rw[hCT]at st ts ti;rw[hjn]at rfx st;rw[hjs]at rfx st;rw[hjf]at rfx st;obtain⟨M0,hM0⟩:∃z,stC m (.slice A ns.length c)=z:=⟨_,rfl⟩;rw[hM0]at h1 s0 i0 o0 st ⊢;rw[hr]at kr;rw[hs]at ks;obtain⟨cl,ck,cs0,cj,cn⟩:=q;simp only at hk fq ⊢;subst hk;obtain⟨CC,hCC⟩:∃z,Cl.cells _=z:=⟨(⟨cl,_,cs0,cj,cn⟩:Cl).cells,rfl⟩;rw[hCC]at h1 kr qi fq ⊢;obtain⟨sb,hsb⟩:∃b,(store==0)=b:=⟨_,rfl⟩;rw[hsb]
 have rfit:0+R.size≤Tryz.zeroCells52.size:=by rw[rsz,zry];omega
 have rmany:zg Tryz.zeroCells52 0 R.toList=R:=by rw[zd _ _ (by rw[Array.length_toList,rsz,zry]),Array.toArray_toList]
 have sfit:0+M0.size≤Tryz.zeroCells47.size:=by rw[s0,zst];omega
 have smany:zg Tryz.zeroCells47 0 M0.toList=M0:=by rw[zd _ _ (by rw[Array.length_toList,s0,zst]),Array.toArray_toList]
 have RAI:=za rai;have RAO:=za rao;have RF:=za rfit;have RM:=za rmany;have SF:=za sfit;have SM:=za smany;have TI:=za ti;have RFX:=za rfx;clear rai rao rfit rmany sfit smany rsz s0 hR ti rf rfx hCT hjn hjs hjf;have H1:=za h1;have ST:=za st;have FQ:=za fq;have QI:=za qi;have KR:=za kr;have KS:=za ks;have I0:=za i0;have O0:=za o0;have HL:=za hL;clear h1 st fq qi kr ks i0 o0 hL h qok hqs ok b0 b1 hrd hn hsz tb hM0 hr hs
 go_enter Tryz.func20,Tryz.ntmps20
 go_wp2_with (with_reducible refine zb 15 rfl (by kernel_rfl) 50 (.tmp 4) rfl (g+1) 0 rfl CC _ (FQ.out _ _ H1.out (by simp)).1 Tryz.underlying50 rfl QI.out ?_)
 go_at_call 42;refine(KR.out _ _ H1.out).mono ?_;rintro e wr ⟨rfl,hr1⟩;have h2:=hr1.perm (L':=(g+2,.cells Tryz.zeroCells47 47 (0,0))::(g+3,.cells Tryz.zeroCells52 52 (0,0))::(g+1,.cells CC 50 (0,0))::(g,.cells M0 47 (0,0))::F) ze;have HR:=za h2;clear hr1 h2 H1;go_wp2_with fail;go_at_call 43;refine(KS.out _ _ HR.out).mono ?_;rintro e wt ⟨rfl,rfl⟩;obtain⟨-,e1,e2,e3,e4⟩:=FQ.out _ _ HR.out (by simp);obtain⟨-,c81,-,c77,c82,c78,c79⟩:=ST.out _ _ HR.out (by simp);go_wp2_with fail;clear e1 e2 e3 e4 c81 c77 c82 c78 c79;have h5:=(HR.out.drew1).perm (L':=(g+2,.cells Tryz.zeroCells47 47 (0,0))::(g+3,.cells Tryz.zeroCells52 52 (0,0))::(g+1,.cells CC 50 (0,0))::(g,.cells M0 47 (0,0))::F) ze;have HDW:=za h5;clear h5;have HUS:=za Tryz.underlying47;have HUT:=za Tryz.underlying29;have FX:=za (fun(v:World) (X:List (Nat × Obj)) (hv:St W v J X) (hm:(g,.cells M0 47 (0,0))∈X)=>(⟨(ST.out v X hv hm).1,(ST.out v X hv hm).2.2.1,(ST.out v X hv hm).2.2.2.1,(ST.out v X hv hm).2.2.2.2.2.1,(ST.out v X hv hm).2.2.2.2.2.2⟩:v.rangeAt g 0 M0.toList∧v.rangeAt g 0 CT.toList∧v.cell? ⟨g,77,none⟩=some (.int .i64 jn)∧v.cell? ⟨g,78,none⟩=some (.int .i64 js)∧v.cell? ⟨g,79,none⟩=some (.int .i64 jf)));have s1:=FX.out _ _ HDW.out (by simp);refine wp_region_held_drew (S:=fun v=>v.rangeAt g 0 M0.toList∧v.rangeAt g 0 CT.toList∧v.cell? ⟨g,77,none⟩=some (.int .i64 jn)∧v.cell? ⟨g,78,none⟩=some (.int .i64 js)∧v.cell? ⟨g,79,none⟩=some (.int .i64 jf)) (by kernel_rfl) s1 (fun hHeld=>?_)
 refine tk op0 (v:=?_) (by kernel_rfl) ?_ (by assumption) ?_ fun _ _ _ h=>h
 rotate_left
 ·(((refine yieldsIf_load_mid ?_ 47 (.tmp 3) ?_ g 0 ?_ M0.toList _ ?_ HUS.out ?_ I0.out)<;>first|rfl|exact fun w h=>h.1))
 try simp only[Act.put,pu1,pu2,pu3]
 try simp only[RFX.out]
 refine tk op1 (v:=?_) (by kernel_rfl) ?_ (by assumption) ?_ fun _ _ _ h=>h
 rotate_left
 ·(refine ya rfl fun w hSw=>?_;go_simp;rfl)
 try simp only[Act.put,pu1,pu2,pu3]
 try simp only[RFX.out]
 refine tk op2 (v:=?_) (by kernel_rfl) ?_ (by assumption) ?_ fun _ _ _ h=>h
 rotate_left
 ·((refine Or.inl ⟨by rfl,?_⟩;intro w hSw;obtain⟨hS1,hS2,hS3,hS4,hS5⟩:=hSw;go_simp;try with_reducible rfl))
 try simp only[Act.put,pu1,pu2,pu3]
 try simp only[RFX.out]
 refine tk op3 (v:=?_) (by kernel_rfl) ?_ (by assumption) ?_ fun _ _ _ h=>h
 rotate_left
 ·(refine ya rfl fun w hSw=>?_;go_simp;rfl)
 try simp only[Act.put,pu1,pu2,pu3]
 try simp only[RFX.out]
 refine tk op4 (v:=?_) (by kernel_rfl) ?_ (by assumption) ?_ fun _ _ _ h=>h
 rotate_left
 ·((refine Or.inl ⟨by rfl,?_⟩;intro w hSw;obtain⟨hS1,hS2,hS3,hS4,hS5⟩:=hSw;go_simp;try with_reducible rfl))
 try simp only[Act.put,pu1,pu2,pu3]
 try simp only[RFX.out]
 refine tk op5 (v:=?_) (by kernel_rfl) ?_ (by assumption) ?_ fun _ _ _ h=>h
 rotate_left
 ·(refine ya rfl fun w hSw=>?_;go_simp;rfl)
 try simp only[Act.put,pu1,pu2,pu3]
 try simp only[RFX.out]
 refine tk op6 (v:=?_) (by kernel_rfl) ?_ (by assumption) ?_ fun _ _ _ h=>h
 rotate_left
 ·((refine Or.inl ⟨by rfl,?_⟩;intro w hSw;obtain⟨hS1,hS2,hS3,hS4,hS5⟩:=hSw;go_simp;try with_reducible rfl))
 try simp only[Act.put,pu1,pu2,pu3]
 try simp only[RFX.out]
 refine tk op7 (v:=?_) (by kernel_rfl) ?_ (by assumption) ?_ fun _ _ _ h=>h
 rotate_left
 ·(refine ya rfl fun w hSw=>?_;go_simp;rfl)
 try simp only[Act.put,pu1,pu2,pu3]
 try simp only[RFX.out]
 refine tk op8 (v:=?_) (by kernel_rfl) ?_ (by assumption) ?_ fun _ _ _ h=>h
 rotate_left
 ·(((refine yieldsIf_load_mid ?_ 29 (.tmp 74) ?_ g 0 ?_ CT.toList _ ?_ HUT.out ?_ TI.out)<;>first|rfl|exact fun w h=>h.2.1))
 try simp only[Act.put,pu1,pu2,pu3]
 try simp only[RFX.out]
 refine tk op9 (v:=?_) (by kernel_rfl) ?_ (by assumption) ?_ fun _ _ _ h=>h
 rotate_left
 ·(refine ya rfl fun w hSw=>?_;go_simp;rfl)
 try simp only[Act.put,pu1,pu2,pu3]
 try simp only[RFX.out]
 refine tk (oq op0) (v:=?_) (by kernel_rfl) ?_ (by assumption) ?_ fun _ _ _ h=>h
 rotate_left
 ·(refine ya rfl fun w hSw=>?_;go_simp;rfl)
 try simp only[Act.put,pu1,pu2,pu3]
 try simp only[RFX.out]
 refine tk (oq op1) (v:=?_) (by kernel_rfl) ?_ (by assumption) ?_ fun _ _ _ h=>h
 rotate_left
 ·(refine ya rfl fun w hSw=>?_;go_simp;rfl)
 try simp only[Act.put,pu1,pu2,pu3]
 try simp only[RFX.out]
 refine rd1 (oq op2) (by kernel_rfl) fun K hK=>?_
 ((refine zq rfl 47 (.tmp 6) (.tmp 67) rfl (g:=g+2) (off:=0) M0 rfl rfl HDW.out SF.out I0.out O0.out ?_;intro wa ha;rw[SM.out]at ha;dsimp only))
 refine hK.out _ _ ?_ fun hHeld=>?_
 ·(try dsimp only)<;>((exact FX.out _ _ ha (by simp)))
 clear hK K
 try simp only[Act.put,pu1,pu2,pu3]
 try simp only[RFX.out]
 refine rd1 (oq op3) (by kernel_rfl) fun K hK=>?_
 ((refine zq rfl 52 (.tmp 7) (.tmp 76) rfl (g:=g+3) (off:=0) R rfl rfl (ha.perm (L':=(g+3,.cells Tryz.zeroCells52 52 (0,0))::(g+2,.cells M0 47 (0,0))::(g+1,.cells CC 50 (0,0))::(g,.cells M0 47 (0,0))::F) ze) RF.out RAI.out RAO.out ?_;intro wf hf;rw[RM.out]at hf;dsimp only))
 refine hK.out _ _ ?_ fun hHeld=>?_
 ·(try dsimp only)<;>((exact FX.out _ _ hf (by simp)))
 clear hK K
 try simp only[Act.put,pu1,pu2,pu3]
 try simp only[RFX.out]
 refine tk (oq op4) (v:=?_) (by kernel_rfl) ?_ (by assumption) ?_ fun _ _ _ h=>h
 rotate_left
 ·(refine ya rfl fun w hSw=>?_;go_simp;rfl)
 try simp only[Act.put,pu1,pu2,pu3]
 try simp only[RFX.out]
 refine wpAnyH_done (by kernel_rfl) ?_ _;have HZ:=za hf;clear hf ha HDW s1;go_wp2_with fail;refine bodyPost_ret (yq rfl _ _ (g+2) (g+3) 47 52 M0 R (0,0) (0,0) _ _ _ rfl rfl rfl (HZ.out.own (g+2,.cells M0 47 (0,0)) (by simp)) (HZ.out.own (g+3,.cells R 52 (0,0)) (by simp)) Tryz.underlying47 (by kernel_rfl) I0.out Tryz.underlying52 (by kernel_rfl) RAI.out) rfl ?_;exact⟨rfl,HZ.out.weaken (A:=[_,_,_,_])⟩
theorem rfc_four_no {A:Option Addr} (tb:Go.Proofs.YtnjnooeldkideaaGreatDoor.TB W J) (q:Cl) (qok:q.Ok) (hqs:q.name.size≤1000000) (c:Nat) (ok:m.Ok) (b0:0≤m.began) (b1:m.began≤1000000) (hrd:Rd W J Ln 1 A (y2 ns)) (hn:ns.length≤1000) (hsz:∀s∈ns,s.size≤1000000) (hL:∀p∈Ln,p∈F) (store:Int) (h:St W w J F) (hr:y3 q=true) (hs:keptB store=true) (hk:q.kind=4) (hw:(goodT m.known q.slot).2≠0):Calls Tryz.prog 20 #[.agg (stC m (.slice A ns.length c)),q.val,.int .i64 store] w (DPost W J F (.slice A ns.length c) (failD m (goodT m.known q.slot).2 store)):=by
 unfold DPost failD;dsimp only;have h1:=(((h.alloc (.cells (stC m (.slice A ns.length c)) 47)).alloc (.cells q.cells 50)).alloc (.cells Tryz.zeroCells47 47)).alloc (.cells Tryz.zeroCells52 52);obtain⟨g,hg⟩:∃g,w.heap.size=g:=⟨_,rfl⟩;simp only[World.size_alloc,hg,Nat.add_assoc,Nat.reduceAdd]at h1;have s0:=zy (nv:=(.slice A ns.length c)) ok;have i0:=zz (nv:=(.slice A ns.length c)) ok;have o0:=ye (m:=m) (nv:=(.slice A ns.length c)) rfl
 have st:=fun(v:World) (X:List (Nat × Obj)) (hv:St W v J X) (hm:(g,Obj.cells (stC m (.slice A ns.length c)) 47 (0,0))∈X)=>(⟨(hv.stt ok hm).all,(hv.stt ok hm).live,(hv.stt ok hm).known,(hv.stt ok hm).number,(hv.stt ok hm).slot,(hv.stt ok hm).state,(hv.stt ok hm).fault⟩:v.rangeAt g 0 (stC m (.slice A ns.length c)).toList∧v.cell? ⟨g,81,none⟩=some (.bool m.job.live)∧v.rangeAt g 0 m.known.cells.toList∧v.cell? ⟨g,77,none⟩=some (.int .i64 m.job.number)∧v.cell? ⟨g,82,none⟩=some (.int .i64 m.job.slot)∧v.cell? ⟨g,78,none⟩=some (.int .i64 m.job.state)∧v.cell? ⟨g,79,none⟩=some (.int .i64 m.job.fault))
 have fq:=fun(v:World) (X:List (Nat × Obj)) (hv:St W v J X) (hm:(g+1,Obj.cells q.cells 50 (0,0))∈X)=>(⟨hv.whole hm,(hv.clf hm).2⟩:v.rangeAt (g+1) 0 q.cells.toList∧v.cell? ⟨g+1,1,none⟩=some (.int .i64 q.kind)∧v.cell? ⟨g+1,2,none⟩=some (.int .i64 q.slot)∧v.cell? ⟨g+1,3,none⟩=some (.int .i64 q.job)∧v.cell? ⟨g+1,4,none⟩=some (.string q.name))
 have qi:=ky q
 have kr:=fun(v:World) (X:List (Nat × Obj)) (hv:St W v J X)=>kq tb q qok hv
 have ks:=fun(v:World) (X:List (Nat × Obj)) (hv:St W v J X)=>y5 store hv
 unfold Cl.val at *
 have kg:=fun(v:World) (X:List (Nat × Obj)) (hv:St W v J X)=>u4 ok.known q.slot hv
 have ti:=z7 ok.known;unfold CPost at kg;obtain⟨⟨cs,y⟩,hW⟩:∃z,goodT m.known q.slot=z:=⟨_,rfl⟩;rw[hW]at kg hw ⊢;dsimp only at kg hw ⊢
 have hwb:(y != 0)=true:=by simpa using hw
 unfold Tb.val at *;obtain⟨C,hC⟩:∃C,m.known.cells=C:=⟨_,rfl⟩;rw[hC]at ti st kg;obtain⟨M0,hM0⟩:∃z,stC m (.slice A ns.length c)=z:=⟨_,rfl⟩;rw[hM0]at h1 s0 i0 o0 st ⊢;rw[hr]at kr;rw[hs]at ks;obtain⟨cl,ck,cs0,cj,cn⟩:=q;simp only at hk fq kg ⊢;subst hk;obtain⟨CC,hCC⟩:∃z,Cl.cells _=z:=⟨(⟨cl,_,cs0,cj,cn⟩:Cl).cells,rfl⟩;rw[hCC]at h1 kr qi fq ⊢
 have kf:=fun(v:World) (X:List (Nat × Obj)) (hv:St W v J X)=>jh (y) hv
 have rsz:=Ry.size (r:=(⟨y,0,0,0,0,zTb⟩:Ry)) zt;have rai:=yu (r:=(⟨y,0,0,0,0,zTb⟩:Ry)) zt;have rao:=Ry.one (⟨y,0,0,0,0,zTb⟩:Ry);obtain⟨R,hR⟩:∃z,(⟨y,0,0,0,0,zTb⟩:Ry).cells=z:=⟨_,rfl⟩;rw[hR]at kf rsz rai rao ⊢;obtain⟨sb,hsb⟩:∃b,(store==0)=b:=⟨_,rfl⟩;rw[hsb]
 have rfit:0+R.size≤Tryz.zeroCells52.size:=by rw[rsz,zry];omega
 have rmany:zg Tryz.zeroCells52 0 R.toList=R:=by rw[zd _ _ (by rw[Array.length_toList,rsz,zry]),Array.toArray_toList]
 have sfit:0+M0.size≤Tryz.zeroCells47.size:=by rw[s0,zst];omega
 have smany:zg Tryz.zeroCells47 0 M0.toList=M0:=by rw[zd _ _ (by rw[Array.length_toList,s0,zst]),Array.toArray_toList]
 have KF:=za kf;have RAI:=za rai;have RAO:=za rao;have RF:=za rfit;have RM:=za rmany;have SF:=za sfit;have SM:=za smany;clear kf rai rao rfit rmany rsz hR sfit smany s0;have KG:=za kg;have TI:=za ti;clear kg ti hC hW hw;have H1:=za h1;have ST:=za st;have FQ:=za fq;have QI:=za qi;have KR:=za kr;have KS:=za ks;have I0:=za i0;have O0:=za o0;have HL:=za hL;clear h1 st fq qi kr ks i0 o0 hL h qok hqs ok b0 b1 hrd hn hsz tb hM0 hr hs
 go_enter Tryz.func20,Tryz.ntmps20
 go_wp2_with (with_reducible refine zb 15 rfl (by kernel_rfl) 50 (.tmp 4) rfl (g+1) 0 rfl CC _ (FQ.out _ _ H1.out (by simp)).1 Tryz.underlying50 rfl QI.out ?_)
 go_at_call 42;refine(KR.out _ _ H1.out).mono ?_;rintro e wr ⟨rfl,hr1⟩;have h2:=hr1.perm (L':=(g+2,.cells Tryz.zeroCells47 47 (0,0))::(g+3,.cells Tryz.zeroCells52 52 (0,0))::(g+1,.cells CC 50 (0,0))::(g,.cells M0 47 (0,0))::F) ze;have HR:=za h2;clear hr1 h2 H1;go_wp2_with fail;go_at_call 43;refine(KS.out _ _ HR.out).mono ?_;rintro e wt ⟨rfl,rfl⟩;obtain⟨-,e1,e2,e3,e4⟩:=FQ.out _ _ HR.out (by simp);obtain⟨-,c81,-,c77,c82,c78,c79⟩:=ST.out _ _ HR.out (by simp)
 go_wp2_with (with_reducible refine zb 102 rfl (by kernel_rfl) 29 (.tmp 101) rfl g 0 rfl C _ (ST.out _ _ HR.out (by simp)).2.2.1 Tryz.underlying29 rfl TI.out ?_)
 go_at_call 46;refine(KG.out _ _ HR.out).mono ?_;rintro e wg ⟨A,c',L,rfl,hr,hx⟩;have hy:=hx.perm (L':=(g+2,.cells Tryz.zeroCells47 47 (0,0))::(g+3,.cells Tryz.zeroCells52 52 (0,0))::(g+1,.cells CC 50 (0,0))::(g,.cells M0 47 (0,0))::(L++F)) ze;have HG:=za hy;clear hx hy HR;obtain⟨-,e1,e2,e3,e4⟩:=FQ.out _ _ HG.out (by simp);go_wp2_with fail;clear e1 e2 e3 e4 c81 c77 c82 c78 c79;have h5:=(HG.out.drew1).perm (L':=(g+2,.cells Tryz.zeroCells47 47 (0,0))::(g+3,.cells Tryz.zeroCells52 52 (0,0))::(g+1,.cells CC 50 (0,0))::(g,.cells M0 47 (0,0))::(L++F)) ze;have HDW:=za h5;clear h5;have HUS:=za Tryz.underlying47;have s1:=(ST.out _ _ HDW.out (by simp)).1;refine wp_region_held_drew (S:=fun v=>v.rangeAt g 0 M0.toList) (by kernel_rfl) s1 (fun hHeld=>?_)
 refine tk op0 (v:=?_) (by kernel_rfl) ?_ (by assumption) ?_ fun _ _ _ h=>h
 rotate_left
 ·(((refine yieldsIf_load_mid ?_ 47 (.tmp 3) ?_ (g) 0 ?_ M0.toList _ ?_ HUS.out ?_ I0.out)<;>first|rfl|exact fun w h=>h))
 try simp only[Act.put,pu1,pu2,pu3]
 refine tk op1 (v:=?_) (by kernel_rfl) ?_ (by assumption) ?_ fun _ _ _ h=>h
 rotate_left
 ·(refine ya rfl fun w hSw=>?_;go_simp;rfl)
 try simp only[Act.put,pu1,pu2,pu3]
 refine tk op3 (v:=?_) (by kernel_rfl) ?_ (by assumption) ?_ fun _ _ _ h=>h
 rotate_left
 ·(refine ya rfl fun w hSw=>?_;go_simp;rfl)
 try simp only[Act.put,pu1,pu2,pu3]
 refine tk op4 (v:=?_) (by kernel_rfl) ?_ (by assumption) ?_ fun _ _ _ h=>h
 rotate_left
 ·(refine ya rfl fun w hSw=>?_;go_simp;rfl)
 try simp only[Act.put,pu1,pu2,pu3]
 refine rd1 op2 (by kernel_rfl) fun K hK=>?_
 go_simp
 ((go_at_call 45;(with_reducible refine(KF.out _ _ HDW.out).mono ?_);rintro e wx ⟨rfl,hx⟩;dsimp only))
 refine hK.out _ _ ?_ fun hHeld=>?_
 ·(try dsimp only)<;>((exact(ST.out _ _ hx (by simp)).1))
 clear hK K
 try simp only[Act.put,pu1,pu2,pu3]
 refine rd1 op5 (by kernel_rfl) fun K hK=>?_
 ((refine zq rfl 47 (.tmp 6) (.tmp 121) rfl (g:=g+2) (off:=0) M0 rfl rfl hx SF.out I0.out O0.out ?_;intro wa ha;rw[SM.out]at ha;dsimp only))
 refine hK.out _ _ ?_ fun hHeld=>?_
 ·(try dsimp only)<;>((exact(ST.out _ _ ha (by simp)).1))
 clear hK K
 try simp only[Act.put,pu1,pu2,pu3]
 refine rd1 op6 (by kernel_rfl) fun K hK=>?_
 ((refine zq rfl 52 (.tmp 7) (.tmp 123) rfl (g:=g+3) (off:=0) R rfl rfl (ha.perm (L':=(g+3,.cells Tryz.zeroCells52 52 (0,0))::(g+2,.cells M0 47 (0,0))::(g+1,.cells CC 50 (0,0))::(g,.cells M0 47 (0,0))::(L++F)) ze) RF.out RAI.out RAO.out ?_;intro wf hf;rw[RM.out]at hf;dsimp only))
 refine hK.out _ _ ?_ fun hHeld=>?_
 ·(try dsimp only)<;>((exact(ST.out _ _ hf (by simp)).1))
 clear hK K
 try simp only[Act.put,pu1,pu2,pu3]
 refine tk op7 (v:=?_) (by kernel_rfl) ?_ (by assumption) ?_ fun _ _ _ h=>h
 rotate_left
 ·(refine ya rfl fun w hSw=>?_;go_simp;rfl)
 try simp only[Act.put,pu1,pu2,pu3]
 refine wpAnyH_done (by kernel_rfl) ?_ _;have HZ:=za hf;clear hf ha hx HDW s1;go_wp2_with fail;refine bodyPost_ret (yq rfl _ _ (g+2) (g+3) 47 52 M0 R (0,0) (0,0) _ _ _ rfl rfl rfl (HZ.out.own (g+2,.cells M0 47 (0,0)) (by simp)) (HZ.out.own (g+3,.cells R 52 (0,0)) (by simp)) Tryz.underlying47 (by kernel_rfl) I0.out Tryz.underlying52 (by kernel_rfl) RAI.out) rfl ?_;refine⟨rfl,St.weaken (A:=(g+3,.cells R 52 (0,0))::(g+2,.cells M0 47 (0,0))::(g+1,.cells CC 50 (0,0))::(g,.cells M0 47 (0,0))::L) (by simpa using HZ.out)⟩
theorem rfc_four {A:Option Addr} (tb:Go.Proofs.YtnjnooeldkideaaGreatDoor.TB W J) (q:Cl) (qok:q.Ok) (hqs:q.name.size≤1000000) (c:Nat) (ok:m.Ok) (b0:0≤m.began) (b1:m.began≤1000000) (hrd:Rd W J Ln 1 A (y2 ns)) (hn:ns.length≤1000) (hsz:∀s∈ns,s.size≤1000000) (hL:∀p∈Ln,p∈F) (store:Int) (h:St W w J F) (hr:y3 q=true) (hs:keptB store=true) (hk:q.kind=4) (hw:(goodT m.known q.slot).2=0):Calls Tryz.prog 20 #[.agg (stC m (.slice A ns.length c)),q.val,.int .i64 store] w (DPost W J F (.slice A ns.length c) (keepD m m (goodT m.known q.slot).1 zRy store)):=by
 unfold DPost keepD;dsimp only;have h1:=(((h.alloc (.cells (stC m (.slice A ns.length c)) 47)).alloc (.cells q.cells 50)).alloc (.cells Tryz.zeroCells47 47)).alloc (.cells Tryz.zeroCells52 52);obtain⟨g,hg⟩:∃g,w.heap.size=g:=⟨_,rfl⟩;simp only[World.size_alloc,hg,Nat.add_assoc,Nat.reduceAdd]at h1;have s0:=zy (nv:=(.slice A ns.length c)) ok;have i0:=zz (nv:=(.slice A ns.length c)) ok;have o0:=ye (m:=m) (nv:=(.slice A ns.length c)) rfl
 have st:=fun(v:World) (X:List (Nat × Obj)) (hv:St W v J X) (hm:(g,Obj.cells (stC m (.slice A ns.length c)) 47 (0,0))∈X)=>(⟨(hv.stt ok hm).all,(hv.stt ok hm).live,(hv.stt ok hm).known,(hv.stt ok hm).number,(hv.stt ok hm).slot,(hv.stt ok hm).state,(hv.stt ok hm).fault⟩:v.rangeAt g 0 (stC m (.slice A ns.length c)).toList∧v.cell? ⟨g,81,none⟩=some (.bool m.job.live)∧v.rangeAt g 0 m.known.cells.toList∧v.cell? ⟨g,77,none⟩=some (.int .i64 m.job.number)∧v.cell? ⟨g,82,none⟩=some (.int .i64 m.job.slot)∧v.cell? ⟨g,78,none⟩=some (.int .i64 m.job.state)∧v.cell? ⟨g,79,none⟩=some (.int .i64 m.job.fault))
 have fq:=fun(v:World) (X:List (Nat × Obj)) (hv:St W v J X) (hm:(g+1,Obj.cells q.cells 50 (0,0))∈X)=>(⟨hv.whole hm,(hv.clf hm).2⟩:v.rangeAt (g+1) 0 q.cells.toList∧v.cell? ⟨g+1,1,none⟩=some (.int .i64 q.kind)∧v.cell? ⟨g+1,2,none⟩=some (.int .i64 q.slot)∧v.cell? ⟨g+1,3,none⟩=some (.int .i64 q.job)∧v.cell? ⟨g+1,4,none⟩=some (.string q.name))
 have qi:=ky q
 have kr:=fun(v:World) (X:List (Nat × Obj)) (hv:St W v J X)=>kq tb q qok hv
 have ks:=fun(v:World) (X:List (Nat × Obj)) (hv:St W v J X)=>y5 store hv
 unfold Cl.val at *
 have kg:=fun(v:World) (X:List (Nat × Obj)) (hv:St W v J X)=>u4 ok.known q.slot hv
 have ti:=z7 ok.known;unfold CPost at kg
 have kk:=fun(A1:Option Addr) (c1:Nat) (L1 X:List (Nat × Obj)) (v:World) (hr:Row 147 40 (.slice A1 (goodT m.known q.slot).1.length c1) (goodT m.known q.slot).1.length (cgs (goodT m.known q.slot).1) L1) (hv:St W v J (L1++X))=>zar (nv:=(.slice A ns.length c)) (m:=m) (m':=m) (r:=zRy) (store:=store) rfl ok ok zt (ux ok.known q.slot qok.s0 qok.s1).1 hr (ux ok.known q.slot qok.s0 qok.s1).2 hv
 have pok:=u2 (r:=zRy) (store:=store) ok ok (ux ok.known q.slot qok.s0 qok.s1).1 zt;have ps:=zy (nv:=(.slice A ns.length c)) pok.1;have pi:=zz (nv:=(.slice A ns.length c)) pok.1;have po:=ye (m:=(keepM m m (goodT m.known q.slot).1 zRy store).1) (nv:=(.slice A ns.length c)) rfl;have rs:=Ry.size pok.2;have ri:=yu pok.2;have ro:=Ry.one (keepM m m (goodT m.known q.slot).1 zRy store).2;obtain⟨P,hP⟩:∃z,keepM m m (goodT m.known q.slot).1 zRy store=z:=⟨_,rfl⟩;rw[hP]at kk ps pi po rs ri ro ⊢;obtain⟨M8,hM8⟩:∃z,stC P.1 (.slice A ns.length c)=z:=⟨_,rfl⟩;obtain⟨R8,hR8⟩:∃z,P.2.cells=z:=⟨_,rfl⟩;rw[hM8]at kk ps pi po ⊢;rw[hR8]at kk rs ri ro ⊢;have bz:=km;obtain⟨R0,hR0⟩:∃z,zRy.cells=z:=⟨_,rfl⟩;rw[hR0]at bz kk;have BZ:=za bz;clear bz hR0;obtain⟨⟨cs,y⟩,hW⟩:∃z,goodT m.known q.slot=z:=⟨_,rfl⟩;rw[hW]at kg hw kk;dsimp only at kg hw kk;subst hw;unfold Tb.val at *;obtain⟨C,hC⟩:∃C,m.known.cells=C:=⟨_,rfl⟩;rw[hC]at ti st kg;obtain⟨M0,hM0⟩:∃z,stC m (.slice A ns.length c)=z:=⟨_,rfl⟩;rw[hM0]at h1 s0 i0 o0 st kk ⊢;rw[hr]at kr;rw[hs]at ks;obtain⟨cl,ck,cs0,cj,cn⟩:=q;simp only at hk fq kg ⊢;subst hk;obtain⟨CC,hCC⟩:∃z,Cl.cells _=z:=⟨(⟨cl,_,cs0,cj,cn⟩:Cl).cells,rfl⟩;rw[hCC]at h1 kr qi fq ⊢
 have sfit8:0+M8.size≤Tryz.zeroCells47.size:=by rw[ps,zst];omega
 have smany8:zg Tryz.zeroCells47 0 M8.toList=M8:=by rw[zd _ _ (by rw[Array.length_toList,ps,zst]),Array.toArray_toList]
 have rfit8:0+R8.size≤Tryz.zeroCells52.size:=by rw[rs,zry];omega
 have rmany8:zg Tryz.zeroCells52 0 R8.toList=R8:=by rw[zd _ _ (by rw[Array.length_toList,rs,zry]),Array.toArray_toList]
 have KK:=za kk;have PI:=za pi;have PO:=za po;have RI:=za ri;have RO:=za ro;have SF8:=za sfit8;have SM8:=za smany8;have RF8:=za rfit8;have RM8:=za rmany8;clear kk pi po ri ro sfit8 smany8 rfit8 rmany8 ps rs hM8 hR8;have KG:=za kg;have TI:=za ti;clear kg ti hC hW;clear pok hP s0;have H1:=za h1;have ST:=za st;have FQ:=za fq;have QI:=za qi;have KR:=za kr;have KS:=za ks;have I0:=za i0;have O0:=za o0;have HL:=za hL;clear h1 st fq qi kr ks i0 o0 hL h qok hqs ok b0 b1 hrd hn hsz tb hM0 hr hs
 go_enter Tryz.func20,Tryz.ntmps20
 go_wp2_with (with_reducible refine zb 15 rfl (by kernel_rfl) 50 (.tmp 4) rfl (g+1) 0 rfl CC _ (FQ.out _ _ H1.out (by simp)).1 Tryz.underlying50 rfl QI.out ?_)
 go_at_call 42;refine(KR.out _ _ H1.out).mono ?_;rintro e wr ⟨rfl,hr1⟩;have h2:=hr1.perm (L':=(g+2,.cells Tryz.zeroCells47 47 (0,0))::(g+3,.cells Tryz.zeroCells52 52 (0,0))::(g+1,.cells CC 50 (0,0))::(g,.cells M0 47 (0,0))::F) ze;have HR:=za h2;clear hr1 h2 H1;go_wp2_with fail;go_at_call 43;refine(KS.out _ _ HR.out).mono ?_;rintro e wt ⟨rfl,rfl⟩;obtain⟨-,e1,e2,e3,e4⟩:=FQ.out _ _ HR.out (by simp);obtain⟨-,c81,-,c77,c82,c78,c79⟩:=ST.out _ _ HR.out (by simp)
 go_wp2_with (with_reducible refine zb 102 rfl (by kernel_rfl) 29 (.tmp 101) rfl g 0 rfl C _ (ST.out _ _ HR.out (by simp)).2.2.1 Tryz.underlying29 rfl TI.out ?_)
 go_at_call 46;refine(KG.out _ _ HR.out).mono ?_;rintro e wg ⟨A,c',L,rfl,hr,hx⟩;have hy:=hx.perm (L':=(g+2,.cells Tryz.zeroCells47 47 (0,0))::(g+3,.cells Tryz.zeroCells52 52 (0,0))::(g+1,.cells CC 50 (0,0))::(g,.cells M0 47 (0,0))::(L++F)) ze;have HG:=za hy;clear hx hy HR;obtain⟨-,e1,e2,e3,e4⟩:=FQ.out _ _ HG.out (by simp);have HKK:=za (KK.out _ _ L ((g+2,.cells Tryz.zeroCells47 47 (0,0))::(g+3,.cells Tryz.zeroCells52 52 (0,0))::(g+1,.cells CC 50 (0,0))::(g,.cells M0 47 (0,0))::F) _ hr (HG.out.perm ze))
 go_wp2_with (first|(with_reducible refine zb 126 rfl (by kernel_rfl) 47 (.tmp 3) rfl g 0 rfl M0 _ (ST.out _ _ HG.out (by simp)).1 Tryz.underlying47 rfl I0.out ?_)|(with_reducible refine zb 127 rfl (by kernel_rfl) 47 (.tmp 3) rfl g 0 rfl M0 _ (ST.out _ _ HG.out (by simp)).1 Tryz.underlying47 rfl I0.out ?_)|(with_reducible refine zh rfl 52 _ rfl _ ?_ (BZ.out _) ?_;·go_simp))
 go_at_call 48;refine HKK.out.mono ?_;rintro e wk ⟨rfl,hk⟩;clear HKK;clear e1 e2 e3 e4 c81 c77 c82 c78 c79;have hk2:=(hk).perm (L':=(g+2,.cells Tryz.zeroCells47 47 (0,0))::(g+3,.cells Tryz.zeroCells52 52 (0,0))::(g+1,.cells CC 50 (0,0))::(g,.cells M0 47 (0,0))::(L++F)) ze;have HK:=za hk2;clear hk2
 go_wp2_with (with_reducible refine zc rfl 47 (.tmp 6) (.tmp 132) rfl (g:=g+2) (off:=0) M8 rfl rfl HK.out SF8.out PI.out PO.out ?_;intro w6 h6;refine Hid.out ?_)
 refine za ?_;rw[SM8.out]at h6;have h7:=h6.perm (L':=(g+3,.cells Tryz.zeroCells52 52 (0,0))::(g+2,.cells M8 47 (0,0))::(g+1,.cells CC 50 (0,0))::(g,.cells M0 47 (0,0))::(L++F)) ze;have H7:=za h7;clear h6 h7 HK
 go_wp2_with (with_reducible refine zc rfl 52 (.tmp 7) (.tmp 133) rfl (g:=g+3) (off:=0) R8 rfl rfl H7.out RF8.out RI.out RO.out ?_;intro w8 h8;refine Hid.out ?_)
 refine za ?_;rw[RM8.out]at h8;have HZ:=za h8;clear h8 H7;go_wp2_with fail;refine bodyPost_ret (yq rfl _ _ (g+2) (g+3) 47 52 M8 R8 (0,0) (0,0) _ _ _ rfl rfl rfl (HZ.out.own (g+2,.cells M8 47 (0,0)) (by simp)) (HZ.out.own (g+3,.cells R8 52 (0,0)) (by simp)) Tryz.underlying47 (by kernel_rfl) PI.out Tryz.underlying52 (by kernel_rfl) RI.out) rfl ?_;exact⟨rfl,St.weaken (A:=(g+3,.cells R8 52 (0,0))::(g+2,.cells M8 47 (0,0))::(g+1,.cells CC 50 (0,0))::(g,.cells M0 47 (0,0))::L) (by simpa using HZ.out)⟩
theorem rfc_five_busy {A:Option Addr} (tb:Go.Proofs.YtnjnooeldkideaaGreatDoor.TB W J) (q:Cl) (qok:q.Ok) (hqs:q.name.size≤1000000) (c:Nat) (ok:m.Ok) (b0:0≤m.began) (b1:m.began≤1000000) (hrd:Rd W J Ln 1 A (y2 ns)) (hn:ns.length≤1000) (hsz:∀s∈ns,s.size≤1000000) (hL:∀p∈Ln,p∈F) (store:Int) (h:St W w J F) (hr:y3 q=true) (hs:keptB store=true) (hk:q.kind=5) (hc:(m.job.live&&q.slot==m.job.slot)=true):Calls Tryz.prog 20 #[.agg (stC m (.slice A ns.length c)),q.val,.int .i64 store] w (DPost W J F (.slice A ns.length c) (failD m 251 store)):=by
 unfold DPost failD;dsimp only;have h1:=(((h.alloc (.cells (stC m (.slice A ns.length c)) 47)).alloc (.cells q.cells 50)).alloc (.cells Tryz.zeroCells47 47)).alloc (.cells Tryz.zeroCells52 52);obtain⟨g,hg⟩:∃g,w.heap.size=g:=⟨_,rfl⟩;simp only[World.size_alloc,hg,Nat.add_assoc,Nat.reduceAdd]at h1;have s0:=zy (nv:=(.slice A ns.length c)) ok;have i0:=zz (nv:=(.slice A ns.length c)) ok;have o0:=ye (m:=m) (nv:=(.slice A ns.length c)) rfl
 have st:=fun(v:World) (X:List (Nat × Obj)) (hv:St W v J X) (hm:(g,Obj.cells (stC m (.slice A ns.length c)) 47 (0,0))∈X)=>(⟨(hv.stt ok hm).all,(hv.stt ok hm).live,(hv.stt ok hm).known,(hv.stt ok hm).number,(hv.stt ok hm).slot,(hv.stt ok hm).state,(hv.stt ok hm).fault⟩:v.rangeAt g 0 (stC m (.slice A ns.length c)).toList∧v.cell? ⟨g,81,none⟩=some (.bool m.job.live)∧v.rangeAt g 0 m.known.cells.toList∧v.cell? ⟨g,77,none⟩=some (.int .i64 m.job.number)∧v.cell? ⟨g,82,none⟩=some (.int .i64 m.job.slot)∧v.cell? ⟨g,78,none⟩=some (.int .i64 m.job.state)∧v.cell? ⟨g,79,none⟩=some (.int .i64 m.job.fault))
 have fq:=fun(v:World) (X:List (Nat × Obj)) (hv:St W v J X) (hm:(g+1,Obj.cells q.cells 50 (0,0))∈X)=>(⟨hv.whole hm,(hv.clf hm).2⟩:v.rangeAt (g+1) 0 q.cells.toList∧v.cell? ⟨g+1,1,none⟩=some (.int .i64 q.kind)∧v.cell? ⟨g+1,2,none⟩=some (.int .i64 q.slot)∧v.cell? ⟨g+1,3,none⟩=some (.int .i64 q.job)∧v.cell? ⟨g+1,4,none⟩=some (.string q.name))
 have qi:=ky q
 have kr:=fun(v:World) (X:List (Nat × Obj)) (hv:St W v J X)=>kq tb q qok hv
 have ks:=fun(v:World) (X:List (Nat × Obj)) (hv:St W v J X)=>y5 store hv
 unfold Cl.val at *;obtain⟨lv,hlv⟩:∃z,m.job.live=z:=⟨_,rfl⟩;obtain⟨jn,hjn⟩:∃z,m.job.slot=z:=⟨_,rfl⟩;rw[hlv,hjn]at hc;rw[hlv,hjn]at st;obtain⟨M0,hM0⟩:∃z,stC m (.slice A ns.length c)=z:=⟨_,rfl⟩;rw[hM0]at h1 s0 i0 o0 st ⊢;rw[hr]at kr;rw[hs]at ks;obtain⟨cl,ck,cs0,cj,cn⟩:=q;simp only at hk fq hc ⊢;subst hk;obtain⟨CC,hCC⟩:∃z,Cl.cells _=z:=⟨(⟨cl,_,cs0,cj,cn⟩:Cl).cells,rfl⟩;rw[hCC]at h1 kr qi fq ⊢
 have kf:=fun(v:World) (X:List (Nat × Obj)) (hv:St W v J X)=>jh (251) hv
 have rsz:=Ry.size (r:=(⟨251,0,0,0,0,zTb⟩:Ry)) zt;have rai:=yu (r:=(⟨251,0,0,0,0,zTb⟩:Ry)) zt;have rao:=Ry.one (⟨251,0,0,0,0,zTb⟩:Ry);obtain⟨R,hR⟩:∃z,(⟨251,0,0,0,0,zTb⟩:Ry).cells=z:=⟨_,rfl⟩;rw[hR]at kf rsz rai rao ⊢;obtain⟨sb,hsb⟩:∃b,(store==0)=b:=⟨_,rfl⟩;rw[hsb]
 have rfit:0+R.size≤Tryz.zeroCells52.size:=by rw[rsz,zry];omega
 have rmany:zg Tryz.zeroCells52 0 R.toList=R:=by rw[zd _ _ (by rw[Array.length_toList,rsz,zry]),Array.toArray_toList]
 have sfit:0+M0.size≤Tryz.zeroCells47.size:=by rw[s0,zst];omega
 have smany:zg Tryz.zeroCells47 0 M0.toList=M0:=by rw[zd _ _ (by rw[Array.length_toList,s0,zst]),Array.toArray_toList]
 have KF:=za kf;have RAI:=za rai;have RAO:=za rao;have RF:=za rfit;have RM:=za rmany;have SF:=za sfit;have SM:=za smany;clear kf rai rao rfit rmany rsz hR sfit smany s0;have H1:=za h1;have ST:=za st;have FQ:=za fq;have QI:=za qi;have KR:=za kr;have KS:=za ks;have I0:=za i0;have O0:=za o0;have HL:=za hL;clear h1 st fq qi kr ks i0 o0 hL h qok hqs ok b0 b1 hrd hn hsz tb hM0 hr hs;clear hlv hjn;rw[Bool.and_eq_true,beq_iff_eq]at hc;obtain⟨rfl,rfl⟩:=hc
 have d1:(cs0==cs0)=true:=by simp
 go_enter Tryz.func20,Tryz.ntmps20
 go_wp2_with (with_reducible refine zb 15 rfl (by kernel_rfl) 50 (.tmp 4) rfl (g+1) 0 rfl CC _ (FQ.out _ _ H1.out (by simp)).1 Tryz.underlying50 rfl QI.out ?_)
 go_at_call 42;refine(KR.out _ _ H1.out).mono ?_;rintro e wr ⟨rfl,hr1⟩;have h2:=hr1.perm (L':=(g+2,.cells Tryz.zeroCells47 47 (0,0))::(g+3,.cells Tryz.zeroCells52 52 (0,0))::(g+1,.cells CC 50 (0,0))::(g,.cells M0 47 (0,0))::F) ze;have HR:=za h2;clear hr1 h2 H1;go_wp2_with fail;go_at_call 43;refine(KS.out _ _ HR.out).mono ?_;rintro e wt ⟨rfl,rfl⟩;obtain⟨-,e1,e2,e3,e4⟩:=FQ.out _ _ HR.out (by simp);obtain⟨-,c81,-,c77,c82,c78,c79⟩:=ST.out _ _ HR.out (by simp);go_wp2_with fail;clear e1 e2 e3 e4 c81 c77 c82 c78 c79;have h5:=(HR.out.drew1).perm (L':=(g+2,.cells Tryz.zeroCells47 47 (0,0))::(g+3,.cells Tryz.zeroCells52 52 (0,0))::(g+1,.cells CC 50 (0,0))::(g,.cells M0 47 (0,0))::F) ze;have HDW:=za h5;clear h5;have HUS:=za Tryz.underlying47;have s1:=(ST.out _ _ HDW.out (by simp)).1;refine wp_region_held_drew (S:=fun v=>v.rangeAt g 0 M0.toList) (by kernel_rfl) s1 (fun hHeld=>?_)
 refine tk op0 (v:=?_) (by kernel_rfl) ?_ (by assumption) ?_ fun _ _ _ h=>h
 rotate_left
 ·(((refine yieldsIf_load_mid ?_ 47 (.tmp 3) ?_ (g) 0 ?_ M0.toList _ ?_ HUS.out ?_ I0.out)<;>first|rfl|exact fun w h=>h))
 try simp only[Act.put,pu1,pu2,pu3]
 refine tk op2 (v:=?_) (by kernel_rfl) ?_ (by assumption) ?_ fun _ _ _ h=>h
 rotate_left
 ·(refine ya rfl fun w hSw=>?_;go_simp;rfl)
 try simp only[Act.put,pu1,pu2,pu3]
 refine tk op3 (v:=?_) (by kernel_rfl) ?_ (by assumption) ?_ fun _ _ _ h=>h
 rotate_left
 ·(refine ya rfl fun w hSw=>?_;go_simp;rfl)
 try simp only[Act.put,pu1,pu2,pu3]
 refine rd1 op1 (by kernel_rfl) fun K hK=>?_
 go_simp
 ((go_at_call 45;(with_reducible refine(KF.out _ _ HDW.out).mono ?_);rintro e wx ⟨rfl,hx⟩;dsimp only))
 refine hK.out _ _ ?_ fun hHeld=>?_
 ·(try dsimp only)<;>((exact(ST.out _ _ hx (by simp)).1))
 clear hK K
 try simp only[Act.put,pu1,pu2,pu3]
 refine rd1 op4 (by kernel_rfl) fun K hK=>?_
 ((refine zq rfl 47 (.tmp 6) (.tmp 96) rfl (g:=g+2) (off:=0) M0 rfl rfl hx SF.out I0.out O0.out ?_;intro wa ha;rw[SM.out]at ha;dsimp only))
 refine hK.out _ _ ?_ fun hHeld=>?_
 ·(try dsimp only)<;>((exact(ST.out _ _ ha (by simp)).1))
 clear hK K
 try simp only[Act.put,pu1,pu2,pu3]
 refine rd1 op5 (by kernel_rfl) fun K hK=>?_
 ((refine zq rfl 52 (.tmp 7) (.tmp 97) rfl (g:=g+3) (off:=0) R rfl rfl (ha.perm (L':=(g+3,.cells Tryz.zeroCells52 52 (0,0))::(g+2,.cells M0 47 (0,0))::(g+1,.cells CC 50 (0,0))::(g,.cells M0 47 (0,0))::F) ze) RF.out RAI.out RAO.out ?_;intro wf hf;rw[RM.out]at hf;dsimp only))
 refine hK.out _ _ ?_ fun hHeld=>?_
 ·(try dsimp only)<;>((exact(ST.out _ _ hf (by simp)).1))
 clear hK K
 try simp only[Act.put,pu1,pu2,pu3]
 refine tk op6 (v:=?_) (by kernel_rfl) ?_ (by assumption) ?_ fun _ _ _ h=>h
 rotate_left
 ·(refine ya rfl fun w hSw=>?_;go_simp;rfl)
 try simp only[Act.put,pu1,pu2,pu3]
 refine wpAnyH_done (by kernel_rfl) ?_ _;have HZ:=za hf;clear hf ha hx HDW s1;go_wp2_with fail;refine bodyPost_ret (yq rfl _ _ (g+2) (g+3) 47 52 M0 R (0,0) (0,0) _ _ _ rfl rfl rfl (HZ.out.own (g+2,.cells M0 47 (0,0)) (by simp)) (HZ.out.own (g+3,.cells R 52 (0,0)) (by simp)) Tryz.underlying47 (by kernel_rfl) I0.out Tryz.underlying52 (by kernel_rfl) RAI.out) rfl ?_;exact⟨rfl,HZ.out.weaken (A:=[_,_,_,_])⟩
theorem rfc_five_no {A:Option Addr} (tb:Go.Proofs.YtnjnooeldkideaaGreatDoor.TB W J) (q:Cl) (qok:q.Ok) (hqs:q.name.size≤1000000) (c:Nat) (ok:m.Ok) (b0:0≤m.began) (b1:m.began≤1000000) (hrd:Rd W J Ln 1 A (y2 ns)) (hn:ns.length≤1000) (hsz:∀s∈ns,s.size≤1000000) (hL:∀p∈Ln,p∈F) (store:Int) (h:St W w J F) (hr:y3 q=true) (hs:keptB store=true) (hk:q.kind=5) (hc:(m.job.live&&q.slot==m.job.slot)=false) (hw:(badT m.known q.slot).2≠0):Calls Tryz.prog 20 #[.agg (stC m (.slice A ns.length c)),q.val,.int .i64 store] w (DPost W J F (.slice A ns.length c) (failD m (badT m.known q.slot).2 store)):=by
 unfold DPost failD;dsimp only;have h1:=(((h.alloc (.cells (stC m (.slice A ns.length c)) 47)).alloc (.cells q.cells 50)).alloc (.cells Tryz.zeroCells47 47)).alloc (.cells Tryz.zeroCells52 52);obtain⟨g,hg⟩:∃g,w.heap.size=g:=⟨_,rfl⟩;simp only[World.size_alloc,hg,Nat.add_assoc,Nat.reduceAdd]at h1;have s0:=zy (nv:=(.slice A ns.length c)) ok;have i0:=zz (nv:=(.slice A ns.length c)) ok;have o0:=ye (m:=m) (nv:=(.slice A ns.length c)) rfl
 have st:=fun(v:World) (X:List (Nat × Obj)) (hv:St W v J X) (hm:(g,Obj.cells (stC m (.slice A ns.length c)) 47 (0,0))∈X)=>(⟨(hv.stt ok hm).all,(hv.stt ok hm).live,(hv.stt ok hm).known,(hv.stt ok hm).number,(hv.stt ok hm).slot,(hv.stt ok hm).state,(hv.stt ok hm).fault⟩:v.rangeAt g 0 (stC m (.slice A ns.length c)).toList∧v.cell? ⟨g,81,none⟩=some (.bool m.job.live)∧v.rangeAt g 0 m.known.cells.toList∧v.cell? ⟨g,77,none⟩=some (.int .i64 m.job.number)∧v.cell? ⟨g,82,none⟩=some (.int .i64 m.job.slot)∧v.cell? ⟨g,78,none⟩=some (.int .i64 m.job.state)∧v.cell? ⟨g,79,none⟩=some (.int .i64 m.job.fault))
 have fq:=fun(v:World) (X:List (Nat × Obj)) (hv:St W v J X) (hm:(g+1,Obj.cells q.cells 50 (0,0))∈X)=>(⟨hv.whole hm,(hv.clf hm).2⟩:v.rangeAt (g+1) 0 q.cells.toList∧v.cell? ⟨g+1,1,none⟩=some (.int .i64 q.kind)∧v.cell? ⟨g+1,2,none⟩=some (.int .i64 q.slot)∧v.cell? ⟨g+1,3,none⟩=some (.int .i64 q.job)∧v.cell? ⟨g+1,4,none⟩=some (.string q.name))
 have qi:=ky q
 have kr:=fun(v:World) (X:List (Nat × Obj)) (hv:St W v J X)=>kq tb q qok hv
 have ks:=fun(v:World) (X:List (Nat × Obj)) (hv:St W v J X)=>y5 store hv
 unfold Cl.val at *
 have kg:=fun(v:World) (X:List (Nat × Obj)) (hv:St W v J X)=>u4 ok.known q.slot hv
 have ti:=z7 ok.known;unfold CPost at kg
 have kb:=fun(v:World) (X:List (Nat × Obj)) (hv:St W v J X)=>ref12_bad ok.known q.slot hv
 unfold CPost at kb;obtain⟨⟨gs,ge⟩,hG⟩:∃z,goodT m.known q.slot=z:=⟨_,rfl⟩;rw[hG]at kg;obtain⟨⟨cs,y⟩,hW⟩:∃z,badT m.known q.slot=z:=⟨_,rfl⟩;rw[hW]at kb hw ⊢;dsimp only at kg kb hw ⊢;obtain⟨lv,hlv⟩:∃z,m.job.live=z:=⟨_,rfl⟩;obtain⟨jn,hjn⟩:∃z,m.job.slot=z:=⟨_,rfl⟩;rw[hlv,hjn]at hc;rw[hlv,hjn]at st
 have hwb:(y != 0)=true:=by simpa using hw
 unfold Tb.val at *;obtain⟨C,hC⟩:∃C,m.known.cells=C:=⟨_,rfl⟩;rw[hC]at ti st kg kb;obtain⟨M0,hM0⟩:∃z,stC m (.slice A ns.length c)=z:=⟨_,rfl⟩;rw[hM0]at h1 s0 i0 o0 st ⊢;rw[hr]at kr;rw[hs]at ks;obtain⟨cl,ck,cs0,cj,cn⟩:=q;simp only at hk fq hc kg kb ⊢;subst hk;obtain⟨CC,hCC⟩:∃z,Cl.cells _=z:=⟨(⟨cl,_,cs0,cj,cn⟩:Cl).cells,rfl⟩;rw[hCC]at h1 kr qi fq ⊢
 have kf:=fun(v:World) (X:List (Nat × Obj)) (hv:St W v J X)=>jh (y) hv
 have rsz:=Ry.size (r:=(⟨y,0,0,0,0,zTb⟩:Ry)) zt;have rai:=yu (r:=(⟨y,0,0,0,0,zTb⟩:Ry)) zt;have rao:=Ry.one (⟨y,0,0,0,0,zTb⟩:Ry);obtain⟨R,hR⟩:∃z,(⟨y,0,0,0,0,zTb⟩:Ry).cells=z:=⟨_,rfl⟩;rw[hR]at kf rsz rai rao ⊢;obtain⟨sb,hsb⟩:∃b,(store==0)=b:=⟨_,rfl⟩;rw[hsb]
 have rfit:0+R.size≤Tryz.zeroCells52.size:=by rw[rsz,zry];omega
 have rmany:zg Tryz.zeroCells52 0 R.toList=R:=by rw[zd _ _ (by rw[Array.length_toList,rsz,zry]),Array.toArray_toList]
 have sfit:0+M0.size≤Tryz.zeroCells47.size:=by rw[s0,zst];omega
 have smany:zg Tryz.zeroCells47 0 M0.toList=M0:=by rw[zd _ _ (by rw[Array.length_toList,s0,zst]),Array.toArray_toList]
 have KF:=za kf;have RAI:=za rai;have RAO:=za rao;have RF:=za rfit;have RM:=za rmany;have SF:=za sfit;have SM:=za smany;clear kf rai rao rfit rmany rsz hR sfit smany s0;have KG:=za kg;have TI:=za ti;clear kg ti hC hW hw;have KB:=za kb;clear kb hG;have H1:=za h1;have ST:=za st;have FQ:=za fq;have QI:=za qi;have KR:=za kr;have KS:=za ks;have I0:=za i0;have O0:=za o0;have HL:=za hL;clear h1 st fq qi kr ks i0 o0 hL h qok hqs ok b0 b1 hrd hn hsz tb hM0 hr hs;clear hlv hjn
 have hd:lv=false∨(lv=true∧(cs0==jn)=false):=by
  cases lv with
  | false=>exact .inl rfl
  | true=>exact .inr ⟨rfl,by simpa using hc⟩
 clear hc
 rcases hd with rfl|⟨rfl,d1⟩
 all_goals
  go_enter Tryz.func20,Tryz.ntmps20
  go_wp2_with (with_reducible refine zb 15 rfl (by kernel_rfl) 50 (.tmp 4) rfl (g+1) 0 rfl CC _ (FQ.out _ _ H1.out (by simp)).1 Tryz.underlying50 rfl QI.out ?_)
  go_at_call 42;refine(KR.out _ _ H1.out).mono ?_;rintro e wr ⟨rfl,hr1⟩;have h2:=hr1.perm (L':=(g+2,.cells Tryz.zeroCells47 47 (0,0))::(g+3,.cells Tryz.zeroCells52 52 (0,0))::(g+1,.cells CC 50 (0,0))::(g,.cells M0 47 (0,0))::F) ze;have HR:=za h2;clear hr1 h2 H1;go_wp2_with fail;go_at_call 43;refine(KS.out _ _ HR.out).mono ?_;rintro e wt ⟨rfl,rfl⟩;obtain⟨-,e1,e2,e3,e4⟩:=FQ.out _ _ HR.out (by simp);obtain⟨-,c81,-,c77,c82,c78,c79⟩:=ST.out _ _ HR.out (by simp)
  go_wp2_with (with_reducible refine zb 102 rfl (by kernel_rfl) 29 (.tmp 101) rfl g 0 rfl C _ (ST.out _ _ HR.out (by simp)).2.2.1 Tryz.underlying29 rfl TI.out ?_)
  go_at_call 46;refine(KG.out _ _ HR.out).mono ?_;rintro e wg ⟨A,c',L,rfl,hr,hx⟩;have hy:=hx.perm (L':=(g+2,.cells Tryz.zeroCells47 47 (0,0))::(g+3,.cells Tryz.zeroCells52 52 (0,0))::(g+1,.cells CC 50 (0,0))::(g,.cells M0 47 (0,0))::(L++F)) ze;have HG:=za hy;clear hx hy HR;obtain⟨-,e1,e2,e3,e4⟩:=FQ.out _ _ HG.out (by simp)
  go_wp2_with (with_reducible refine zb 113 rfl (by kernel_rfl) 29 (.tmp 112) rfl g 0 rfl C _ (ST.out _ _ HG.out (by simp)).2.2.1 Tryz.underlying29 rfl TI.out ?_)
  go_at_call 47;refine(KB.out _ _ HG.out).mono ?_;rintro e wg2 ⟨A2,c2',L2,rfl,hr2,hx2⟩;have hy2:=hx2.perm (L':=(g+2,.cells Tryz.zeroCells47 47 (0,0))::(g+3,.cells Tryz.zeroCells52 52 (0,0))::(g+1,.cells CC 50 (0,0))::(g,.cells M0 47 (0,0))::(L2++(L++F))) ze;have HG2:=za hy2;clear hx2 hy2 HG;obtain⟨-,e1,e2,e3,e4⟩:=FQ.out _ _ HG2.out (by simp);go_wp2_with fail;clear e1 e2 e3 e4 c81 c77 c82 c78 c79;have h5:=(HG2.out.drew1).perm (L':=(g+2,.cells Tryz.zeroCells47 47 (0,0))::(g+3,.cells Tryz.zeroCells52 52 (0,0))::(g+1,.cells CC 50 (0,0))::(g,.cells M0 47 (0,0))::(L2++(L++F))) ze;have HDW:=za h5;clear h5;have HUS:=za Tryz.underlying47;have s1:=(ST.out _ _ HDW.out (by simp)).1;refine wp_region_held_drew (S:=fun v=>v.rangeAt g 0 M0.toList) (by kernel_rfl) s1 (fun hHeld=>?_)
  refine tk op0 (v:=?_) (by kernel_rfl) ?_ (by assumption) ?_ fun _ _ _ h=>h
  rotate_left
  ·(((refine yieldsIf_load_mid ?_ 47 (.tmp 3) ?_ (g) 0 ?_ M0.toList _ ?_ HUS.out ?_ I0.out)<;>first|rfl|exact fun w h=>h))
  try simp only[Act.put,pu1,pu2,pu3]
  refine tk op1 (v:=?_) (by kernel_rfl) ?_ (by assumption) ?_ fun _ _ _ h=>h
  rotate_left
  ·(refine ya rfl fun w hSw=>?_;go_simp;rfl)
  try simp only[Act.put,pu1,pu2,pu3]
  refine tk op3 (v:=?_) (by kernel_rfl) ?_ (by assumption) ?_ fun _ _ _ h=>h
  rotate_left
  ·(refine ya rfl fun w hSw=>?_;go_simp;rfl)
  try simp only[Act.put,pu1,pu2,pu3]
  refine tk op4 (v:=?_) (by kernel_rfl) ?_ (by assumption) ?_ fun _ _ _ h=>h
  rotate_left
  ·(refine ya rfl fun w hSw=>?_;go_simp;rfl)
  try simp only[Act.put,pu1,pu2,pu3]
  refine rd1 op2 (by kernel_rfl) fun K hK=>?_
  go_simp
  ((go_at_call 45;(with_reducible refine(KF.out _ _ HDW.out).mono ?_);rintro e wx ⟨rfl,hx⟩;dsimp only))
  refine hK.out _ _ ?_ fun hHeld=>?_
  ·(try dsimp only)<;>((exact(ST.out _ _ hx (by simp)).1))
  clear hK K
  try simp only[Act.put,pu1,pu2,pu3]
  refine rd1 op5 (by kernel_rfl) fun K hK=>?_
  ((refine zq rfl 47 (.tmp 6) (.tmp 121) rfl (g:=g+2) (off:=0) M0 rfl rfl hx SF.out I0.out O0.out ?_;intro wa ha;rw[SM.out]at ha;dsimp only))
  refine hK.out _ _ ?_ fun hHeld=>?_
  ·(try dsimp only)<;>((exact(ST.out _ _ ha (by simp)).1))
  clear hK K
  try simp only[Act.put,pu1,pu2,pu3]
  refine rd1 op6 (by kernel_rfl) fun K hK=>?_
  ((refine zq rfl 52 (.tmp 7) (.tmp 123) rfl (g:=g+3) (off:=0) R rfl rfl (ha.perm (L':=(g+3,.cells Tryz.zeroCells52 52 (0,0))::(g+2,.cells M0 47 (0,0))::(g+1,.cells CC 50 (0,0))::(g,.cells M0 47 (0,0))::(L2++(L++F))) ze) RF.out RAI.out RAO.out ?_;intro wf hf;rw[RM.out]at hf;dsimp only))
  refine hK.out _ _ ?_ fun hHeld=>?_
  ·(try dsimp only)<;>((exact(ST.out _ _ hf (by simp)).1))
  clear hK K
  try simp only[Act.put,pu1,pu2,pu3]
  refine tk op7 (v:=?_) (by kernel_rfl) ?_ (by assumption) ?_ fun _ _ _ h=>h
  rotate_left
  ·(refine ya rfl fun w hSw=>?_;go_simp;rfl)
  try simp only[Act.put,pu1,pu2,pu3]
  refine wpAnyH_done (by kernel_rfl) ?_ _;have HZ:=za hf;clear hf ha hx HDW s1;go_wp2_with fail;refine bodyPost_ret (yq rfl _ _ (g+2) (g+3) 47 52 M0 R (0,0) (0,0) _ _ _ rfl rfl rfl (HZ.out.own (g+2,.cells M0 47 (0,0)) (by simp)) (HZ.out.own (g+3,.cells R 52 (0,0)) (by simp)) Tryz.underlying47 (by kernel_rfl) I0.out Tryz.underlying52 (by kernel_rfl) RAI.out) rfl ?_;refine⟨rfl,St.weaken (A:=(g+3,.cells R 52 (0,0))::(g+2,.cells M0 47 (0,0))::(g+1,.cells CC 50 (0,0))::(g,.cells M0 47 (0,0))::L2++L) (by simpa using HZ.out)⟩
theorem rfc_five {A:Option Addr} (tb:Go.Proofs.YtnjnooeldkideaaGreatDoor.TB W J) (q:Cl) (qok:q.Ok) (hqs:q.name.size≤1000000) (c:Nat) (ok:m.Ok) (b0:0≤m.began) (b1:m.began≤1000000) (hrd:Rd W J Ln 1 A (y2 ns)) (hn:ns.length≤1000) (hsz:∀s∈ns,s.size≤1000000) (hL:∀p∈Ln,p∈F) (store:Int) (h:St W w J F) (hr:y3 q=true) (hs:keptB store=true) (hk:q.kind=5) (hc:(m.job.live&&q.slot==m.job.slot)=false) (hw:(badT m.known q.slot).2=0):Calls Tryz.prog 20 #[.agg (stC m (.slice A ns.length c)),q.val,.int .i64 store] w (DPost W J F (.slice A ns.length c) (keepD m m (badT m.known q.slot).1 zRy store)):=by
 unfold DPost keepD;dsimp only;have h1:=(((h.alloc (.cells (stC m (.slice A ns.length c)) 47)).alloc (.cells q.cells 50)).alloc (.cells Tryz.zeroCells47 47)).alloc (.cells Tryz.zeroCells52 52);obtain⟨g,hg⟩:∃g,w.heap.size=g:=⟨_,rfl⟩;simp only[World.size_alloc,hg,Nat.add_assoc,Nat.reduceAdd]at h1;have s0:=zy (nv:=(.slice A ns.length c)) ok;have i0:=zz (nv:=(.slice A ns.length c)) ok;have o0:=ye (m:=m) (nv:=(.slice A ns.length c)) rfl
 have st:=fun(v:World) (X:List (Nat × Obj)) (hv:St W v J X) (hm:(g,Obj.cells (stC m (.slice A ns.length c)) 47 (0,0))∈X)=>(⟨(hv.stt ok hm).all,(hv.stt ok hm).live,(hv.stt ok hm).known,(hv.stt ok hm).number,(hv.stt ok hm).slot,(hv.stt ok hm).state,(hv.stt ok hm).fault⟩:v.rangeAt g 0 (stC m (.slice A ns.length c)).toList∧v.cell? ⟨g,81,none⟩=some (.bool m.job.live)∧v.rangeAt g 0 m.known.cells.toList∧v.cell? ⟨g,77,none⟩=some (.int .i64 m.job.number)∧v.cell? ⟨g,82,none⟩=some (.int .i64 m.job.slot)∧v.cell? ⟨g,78,none⟩=some (.int .i64 m.job.state)∧v.cell? ⟨g,79,none⟩=some (.int .i64 m.job.fault))
 have fq:=fun(v:World) (X:List (Nat × Obj)) (hv:St W v J X) (hm:(g+1,Obj.cells q.cells 50 (0,0))∈X)=>(⟨hv.whole hm,(hv.clf hm).2⟩:v.rangeAt (g+1) 0 q.cells.toList∧v.cell? ⟨g+1,1,none⟩=some (.int .i64 q.kind)∧v.cell? ⟨g+1,2,none⟩=some (.int .i64 q.slot)∧v.cell? ⟨g+1,3,none⟩=some (.int .i64 q.job)∧v.cell? ⟨g+1,4,none⟩=some (.string q.name))
 have qi:=ky q
 have kr:=fun(v:World) (X:List (Nat × Obj)) (hv:St W v J X)=>kq tb q qok hv
 have ks:=fun(v:World) (X:List (Nat × Obj)) (hv:St W v J X)=>y5 store hv
 unfold Cl.val at *
 have kg:=fun(v:World) (X:List (Nat × Obj)) (hv:St W v J X)=>u4 ok.known q.slot hv
 have ti:=z7 ok.known;unfold CPost at kg
 have kb:=fun(v:World) (X:List (Nat × Obj)) (hv:St W v J X)=>ref12_bad ok.known q.slot hv
 unfold CPost at kb
 have kk:=fun(A1:Option Addr) (c1:Nat) (L1 X:List (Nat × Obj)) (v:World) (hr:Row 147 40 (.slice A1 (badT m.known q.slot).1.length c1) (badT m.known q.slot).1.length (cgs (badT m.known q.slot).1) L1) (hv:St W v J (L1++X))=>zar (nv:=(.slice A ns.length c)) (m:=m) (m':=m) (r:=zRy) (store:=store) rfl ok ok zt (zae ok.known q.slot qok.s0 qok.s1).1 hr (zae ok.known q.slot qok.s0 qok.s1).2 hv
 have pok:=u2 (r:=zRy) (store:=store) ok ok (zae ok.known q.slot qok.s0 qok.s1).1 zt;have ps:=zy (nv:=(.slice A ns.length c)) pok.1;have pi:=zz (nv:=(.slice A ns.length c)) pok.1;have po:=ye (m:=(keepM m m (badT m.known q.slot).1 zRy store).1) (nv:=(.slice A ns.length c)) rfl;have rs:=Ry.size pok.2;have ri:=yu pok.2;have ro:=Ry.one (keepM m m (badT m.known q.slot).1 zRy store).2;obtain⟨P,hP⟩:∃z,keepM m m (badT m.known q.slot).1 zRy store=z:=⟨_,rfl⟩;rw[hP]at kk ps pi po rs ri ro ⊢;obtain⟨M8,hM8⟩:∃z,stC P.1 (.slice A ns.length c)=z:=⟨_,rfl⟩;obtain⟨R8,hR8⟩:∃z,P.2.cells=z:=⟨_,rfl⟩;rw[hM8]at kk ps pi po ⊢;rw[hR8]at kk rs ri ro ⊢;have bz:=km;obtain⟨R0,hR0⟩:∃z,zRy.cells=z:=⟨_,rfl⟩;rw[hR0]at bz kk;have BZ:=za bz;clear bz hR0;obtain⟨⟨gs,ge⟩,hG⟩:∃z,goodT m.known q.slot=z:=⟨_,rfl⟩;rw[hG]at kg;obtain⟨⟨cs,y⟩,hW⟩:∃z,badT m.known q.slot=z:=⟨_,rfl⟩;rw[hW]at kb hw kk;dsimp only at kg kb hw kk;obtain⟨lv,hlv⟩:∃z,m.job.live=z:=⟨_,rfl⟩;obtain⟨jn,hjn⟩:∃z,m.job.slot=z:=⟨_,rfl⟩;rw[hlv,hjn]at hc;rw[hlv,hjn]at st;subst hw;unfold Tb.val at *;obtain⟨C,hC⟩:∃C,m.known.cells=C:=⟨_,rfl⟩;rw[hC]at ti st kg kb;obtain⟨M0,hM0⟩:∃z,stC m (.slice A ns.length c)=z:=⟨_,rfl⟩;rw[hM0]at h1 s0 i0 o0 st kk ⊢;rw[hr]at kr;rw[hs]at ks;obtain⟨cl,ck,cs0,cj,cn⟩:=q;simp only at hk fq hc kg kb ⊢;subst hk;obtain⟨CC,hCC⟩:∃z,Cl.cells _=z:=⟨(⟨cl,_,cs0,cj,cn⟩:Cl).cells,rfl⟩;rw[hCC]at h1 kr qi fq ⊢
 have sfit8:0+M8.size≤Tryz.zeroCells47.size:=by rw[ps,zst];omega
 have smany8:zg Tryz.zeroCells47 0 M8.toList=M8:=by rw[zd _ _ (by rw[Array.length_toList,ps,zst]),Array.toArray_toList]
 have rfit8:0+R8.size≤Tryz.zeroCells52.size:=by rw[rs,zry];omega
 have rmany8:zg Tryz.zeroCells52 0 R8.toList=R8:=by rw[zd _ _ (by rw[Array.length_toList,rs,zry]),Array.toArray_toList]
 have KK:=za kk;have PI:=za pi;have PO:=za po;have RI:=za ri;have RO:=za ro;have SF8:=za sfit8;have SM8:=za smany8;have RF8:=za rfit8;have RM8:=za rmany8;clear kk pi po ri ro sfit8 smany8 rfit8 rmany8 ps rs hM8 hR8;have KG:=za kg;have TI:=za ti;clear kg ti hC hW;have KB:=za kb;clear kb hG;clear pok hP s0;have H1:=za h1;have ST:=za st;have FQ:=za fq;have QI:=za qi;have KR:=za kr;have KS:=za ks;have I0:=za i0;have O0:=za o0;have HL:=za hL;clear h1 st fq qi kr ks i0 o0 hL h qok hqs ok b0 b1 hrd hn hsz tb hM0 hr hs;clear hlv hjn
 have hd:lv=false∨(lv=true∧(cs0==jn)=false):=by
  cases lv with
  | false=>exact .inl rfl
  | true=>exact .inr ⟨rfl,by simpa using hc⟩
 clear hc
 rcases hd with rfl|⟨rfl,d1⟩
 all_goals
  go_enter Tryz.func20,Tryz.ntmps20
  go_wp2_with (with_reducible refine zb 15 rfl (by kernel_rfl) 50 (.tmp 4) rfl (g+1) 0 rfl CC _ (FQ.out _ _ H1.out (by simp)).1 Tryz.underlying50 rfl QI.out ?_)
  go_at_call 42;refine(KR.out _ _ H1.out).mono ?_;rintro e wr ⟨rfl,hr1⟩;have h2:=hr1.perm (L':=(g+2,.cells Tryz.zeroCells47 47 (0,0))::(g+3,.cells Tryz.zeroCells52 52 (0,0))::(g+1,.cells CC 50 (0,0))::(g,.cells M0 47 (0,0))::F) ze;have HR:=za h2;clear hr1 h2 H1;go_wp2_with fail;go_at_call 43;refine(KS.out _ _ HR.out).mono ?_;rintro e wt ⟨rfl,rfl⟩;obtain⟨-,e1,e2,e3,e4⟩:=FQ.out _ _ HR.out (by simp);obtain⟨-,c81,-,c77,c82,c78,c79⟩:=ST.out _ _ HR.out (by simp)
  go_wp2_with (with_reducible refine zb 102 rfl (by kernel_rfl) 29 (.tmp 101) rfl g 0 rfl C _ (ST.out _ _ HR.out (by simp)).2.2.1 Tryz.underlying29 rfl TI.out ?_)
  go_at_call 46;refine(KG.out _ _ HR.out).mono ?_;rintro e wg ⟨A,c',L,rfl,hr,hx⟩;have hy:=hx.perm (L':=(g+2,.cells Tryz.zeroCells47 47 (0,0))::(g+3,.cells Tryz.zeroCells52 52 (0,0))::(g+1,.cells CC 50 (0,0))::(g,.cells M0 47 (0,0))::(L++F)) ze;have HG:=za hy;clear hx hy HR;obtain⟨-,e1,e2,e3,e4⟩:=FQ.out _ _ HG.out (by simp)
  go_wp2_with (with_reducible refine zb 113 rfl (by kernel_rfl) 29 (.tmp 112) rfl g 0 rfl C _ (ST.out _ _ HG.out (by simp)).2.2.1 Tryz.underlying29 rfl TI.out ?_)
  go_at_call 47;refine(KB.out _ _ HG.out).mono ?_;rintro e wg2 ⟨A2,c2',L2,rfl,hr2,hx2⟩;have hy2:=hx2.perm (L':=(g+2,.cells Tryz.zeroCells47 47 (0,0))::(g+3,.cells Tryz.zeroCells52 52 (0,0))::(g+1,.cells CC 50 (0,0))::(g,.cells M0 47 (0,0))::(L2++(L++F))) ze;have HG2:=za hy2;clear hx2 hy2 HG;obtain⟨-,e1,e2,e3,e4⟩:=FQ.out _ _ HG2.out (by simp);have HKK:=za (KK.out _ _ L2 ((g+2,.cells Tryz.zeroCells47 47 (0,0))::(g+3,.cells Tryz.zeroCells52 52 (0,0))::(g+1,.cells CC 50 (0,0))::(g,.cells M0 47 (0,0))::(L++F)) _ hr2 (HG2.out.perm ze))
  go_wp2_with (first|(with_reducible refine zb 126 rfl (by kernel_rfl) 47 (.tmp 3) rfl g 0 rfl M0 _ (ST.out _ _ HG2.out (by simp)).1 Tryz.underlying47 rfl I0.out ?_)|(with_reducible refine zb 127 rfl (by kernel_rfl) 47 (.tmp 3) rfl g 0 rfl M0 _ (ST.out _ _ HG2.out (by simp)).1 Tryz.underlying47 rfl I0.out ?_)|(with_reducible refine zh rfl 52 _ rfl _ ?_ (BZ.out _) ?_;·go_simp))
  go_at_call 48;refine HKK.out.mono ?_;rintro e wk ⟨rfl,hk⟩;clear HKK;clear e1 e2 e3 e4 c81 c77 c82 c78 c79;have hk2:=(hk).perm (L':=(g+2,.cells Tryz.zeroCells47 47 (0,0))::(g+3,.cells Tryz.zeroCells52 52 (0,0))::(g+1,.cells CC 50 (0,0))::(g,.cells M0 47 (0,0))::(L2++(L++F))) ze;have HK:=za hk2;clear hk2
  go_wp2_with (with_reducible refine zc rfl 47 (.tmp 6) (.tmp 132) rfl (g:=g+2) (off:=0) M8 rfl rfl HK.out SF8.out PI.out PO.out ?_;intro w6 h6;refine Hid.out ?_)
  refine za ?_;rw[SM8.out]at h6;have h7:=h6.perm (L':=(g+3,.cells Tryz.zeroCells52 52 (0,0))::(g+2,.cells M8 47 (0,0))::(g+1,.cells CC 50 (0,0))::(g,.cells M0 47 (0,0))::(L2++(L++F))) ze;have H7:=za h7;clear h6 h7 HK
  go_wp2_with (with_reducible refine zc rfl 52 (.tmp 7) (.tmp 133) rfl (g:=g+3) (off:=0) R8 rfl rfl H7.out RF8.out RI.out RO.out ?_;intro w8 h8;refine Hid.out ?_)
  refine za ?_;rw[RM8.out]at h8;have HZ:=za h8;clear h8 H7;go_wp2_with fail;refine bodyPost_ret (yq rfl _ _ (g+2) (g+3) 47 52 M8 R8 (0,0) (0,0) _ _ _ rfl rfl rfl (HZ.out.own (g+2,.cells M8 47 (0,0)) (by simp)) (HZ.out.own (g+3,.cells R8 52 (0,0)) (by simp)) Tryz.underlying47 (by kernel_rfl) PI.out Tryz.underlying52 (by kernel_rfl) RI.out) rfl ?_;exact⟨rfl,St.weaken (A:=(g+3,.cells R8 52 (0,0))::(g+2,.cells M8 47 (0,0))::(g+1,.cells CC 50 (0,0))::(g,.cells M0 47 (0,0))::L2++L) (by simpa using HZ.out)⟩
end
end Go.Proofs.YtnjnooeldkideaaGreatDoor
