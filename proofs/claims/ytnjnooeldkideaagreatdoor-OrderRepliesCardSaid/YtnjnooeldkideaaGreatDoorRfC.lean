/- order: the document's Call: what is refused at once; cancel. -/
import Derived.Test.YtnjnooeldkideaaGreatDoorMRfJ
import Derived.Test.YtnjnooeldkideaaGreatDoorMOrRe
import Derived.Test.YtnjnooeldkideaaGreatDoorMOrT
namespace Go.Proofs.YtnjnooeldkideaaGreatDoor
set_option maxRecDepth 100000
set_option maxHeartbeats 8000000
set_option linter.unusedVariables false
set_option linter.unusedSimpArgs false
open Go.RowKit Go.Lib Go.Deep
section
variable {W w:World} {J:Nat→Option Obj} {t:Tb} {F:List (Nat × Obj)}
variable {m:Md} {nv:Value} {ns:List ByteArray} {Ln:List (Nat × Obj)}
theorem rfc_none {A:Option Addr} (tb:Go.Proofs.YtnjnooeldkideaaGreatDoor.TB W J) (q:Cl) (qok:q.Ok) (hqs:q.name.size≤1000000) (c:Nat) (ok:m.Ok) (b0:0≤m.began) (b1:m.began≤1000000) (hrd:Rd W J Ln 1 A (y2 ns)) (hn:ns.length≤1000) (hsz:∀s∈ns,s.size≤1000000) (hL:∀p∈Ln,p∈F) (store:Int) (h:St W w J F) (hno:y3 q=true→keptB store=false):Calls Tryz.prog 20 #[.agg (stC m (.slice A ns.length c)),q.val,.int .i64 store] w (DPost W J F (.slice A ns.length c) (m,zRy,false)):=by
 unfold DPost;dsimp only;have h1:=(((h.alloc (.cells (stC m (.slice A ns.length c)) 47)).alloc (.cells q.cells 50)).alloc (.cells Tryz.zeroCells47 47)).alloc (.cells Tryz.zeroCells52 52);obtain⟨g,hg⟩:∃g,w.heap.size=g:=⟨_,rfl⟩;simp only[World.size_alloc,hg,Nat.add_assoc,Nat.reduceAdd]at h1;have s0:=zy (nv:=(.slice A ns.length c)) ok;have i0:=zz (nv:=(.slice A ns.length c)) ok;have o0:=ye (m:=m) (nv:=(.slice A ns.length c)) rfl
 have st:=fun(v:World) (X:List (Nat × Obj)) (hv:St W v J X) (hm:(g,Obj.cells (stC m (.slice A ns.length c)) 47 (0,0))∈X)=>(⟨(hv.stt ok hm).all,(hv.stt ok hm).live,(hv.stt ok hm).known,(hv.stt ok hm).number,(hv.stt ok hm).slot,(hv.stt ok hm).state,(hv.stt ok hm).fault⟩:v.rangeAt g 0 (stC m (.slice A ns.length c)).toList∧v.cell? ⟨g,81,none⟩=some (.bool m.job.live)∧v.rangeAt g 0 m.known.cells.toList∧v.cell? ⟨g,77,none⟩=some (.int .i64 m.job.number)∧v.cell? ⟨g,82,none⟩=some (.int .i64 m.job.slot)∧v.cell? ⟨g,78,none⟩=some (.int .i64 m.job.state)∧v.cell? ⟨g,79,none⟩=some (.int .i64 m.job.fault))
 have fq:=fun(v:World) (X:List (Nat × Obj)) (hv:St W v J X) (hm:(g+1,Obj.cells q.cells 50 (0,0))∈X)=>(⟨hv.whole hm,(hv.clf hm).2⟩:v.rangeAt (g+1) 0 q.cells.toList∧v.cell? ⟨g+1,1,none⟩=some (.int .i64 q.kind)∧v.cell? ⟨g+1,2,none⟩=some (.int .i64 q.slot)∧v.cell? ⟨g+1,3,none⟩=some (.int .i64 q.job)∧v.cell? ⟨g+1,4,none⟩=some (.string q.name))
 have qi:=ky q
 have kr:=fun(v:World) (X:List (Nat × Obj)) (hv:St W v J X)=>kq tb q qok hv
 have ks:=fun(v:World) (X:List (Nat × Obj)) (hv:St W v J X)=>y5 store hv
 unfold Cl.val at *;obtain⟨M0,hM0⟩:∃z,stC m (.slice A ns.length c)=z:=⟨_,rfl⟩;rw[hM0]at h1 s0 i0 o0 st ⊢;have rsz:=Ry.size (r:=zRy) zt;have rai:=yu (r:=zRy) zt;have rao:=Ry.one zRy;have bz:=km;obtain⟨R,hR⟩:∃z,zRy.cells=z:=⟨_,rfl⟩;rw[hR]at rsz rai rao bz ⊢
 have rfit:0+R.size≤Tryz.zeroCells52.size:=by rw[rsz,zry];omega
 have rmany:zg Tryz.zeroCells52 0 R.toList=R:=by rw[zd _ _ (by rw[Array.length_toList,rsz,zry]),Array.toArray_toList]
 have sfit:0+M0.size≤Tryz.zeroCells47.size:=by rw[s0,zst];omega
 have smany:zg Tryz.zeroCells47 0 M0.toList=M0:=by rw[zd _ _ (by rw[Array.length_toList,s0,zst]),Array.toArray_toList]
 have RAI:=za rai;have RAO:=za rao;have BZ:=za bz;have RF:=za rfit;have RM:=za rmany;have SF:=za sfit;have SM:=za smany;clear rai rao bz rfit rmany sfit smany rsz s0 hR;obtain⟨CC,hCC⟩:∃z,Cl.cells _=z:=⟨q.cells,rfl⟩;rw[hCC]at h1 kr qi fq ⊢;have H1:=za h1;have ST:=za st;have FQ:=za fq;have QI:=za qi;have KR:=za kr;have KS:=za ks;have I0:=za i0;have O0:=za o0;have HL:=za hL;clear h1 st fq qi kr ks i0 o0 hL h qok hqs ok b0 b1 hrd hn hsz tb hM0
 cases hr:y3 q with
 | false=>
  rw[hr]at KR;clear hr hno
  go_enter Tryz.func20,Tryz.ntmps20
  go_wp2_with (with_reducible refine zb 15 rfl (by kernel_rfl) 50 (.tmp 4) rfl (g+1) 0 rfl CC _ (FQ.out _ _ H1.out (by simp)).1 Tryz.underlying50 rfl QI.out ?_)
  go_at_call 42;refine(KR.out _ _ H1.out).mono ?_;rintro e wr ⟨rfl,hr1⟩;have h2:=hr1.perm (L':=(g+2,.cells Tryz.zeroCells47 47 (0,0))::(g+3,.cells Tryz.zeroCells52 52 (0,0))::(g+1,.cells CC 50 (0,0))::(g,.cells M0 47 (0,0))::F) ze;have HR:=za h2;clear hr1 h2 H1
  go_wp2_with (first|(with_reducible refine zb 23 rfl (by kernel_rfl) 47 (.tmp 3) rfl g 0 rfl M0 _ (ST.out _ _ HR.out (by simp)).1 Tryz.underlying47 rfl I0.out ?_)|(with_reducible refine zh rfl 52 _ rfl _ ?_ (BZ.out _) ?_;·go_simp)|(with_reducible refine zc rfl 47 (.tmp 6) (.tmp 23) rfl (g:=g+2) (off:=0) M0 rfl rfl HR.out SF.out I0.out O0.out ?_;intro w6 h6;refine Hid.out ?_))
  refine za ?_;rw[SM.out]at h6;have h7:=h6.perm (L':=(g+3,.cells Tryz.zeroCells52 52 (0,0))::(g+2,.cells M0 47 (0,0))::(g+1,.cells CC 50 (0,0))::(g,.cells M0 47 (0,0))::F) ze;have H7:=za h7;clear h6 h7 HR
  go_wp2_with (with_reducible refine zc rfl 52 (.tmp 7) (.tmp 24) rfl (g:=g+3) (off:=0) R rfl rfl H7.out RF.out RAI.out RAO.out ?_;intro w8 h8;refine Hid.out ?_)
  refine za ?_;rw[RM.out]at h8;have HZ:=za h8;clear h8 H7;go_wp2_with fail;refine bodyPost_ret (yq rfl _ _ (g+2) (g+3) 47 52 M0 R (0,0) (0,0) _ _ _ rfl rfl rfl (HZ.out.own (g+2,.cells M0 47 (0,0)) (by simp)) (HZ.out.own (g+3,.cells R 52 (0,0)) (by simp)) Tryz.underlying47 (by kernel_rfl) I0.out Tryz.underlying52 (by kernel_rfl) RAI.out) rfl ?_;exact⟨rfl,HZ.out.weaken (A:=[_,_,_,_])⟩
 | true=>
  have hs:=hno hr;rw[hr]at KR;rw[hs]at KS;clear hr hs hno
  go_enter Tryz.func20,Tryz.ntmps20
  go_wp2_with (with_reducible refine zb 15 rfl (by kernel_rfl) 50 (.tmp 4) rfl (g+1) 0 rfl CC _ (FQ.out _ _ H1.out (by simp)).1 Tryz.underlying50 rfl QI.out ?_)
  go_at_call 42;refine(KR.out _ _ H1.out).mono ?_;rintro e wr ⟨rfl,hr1⟩;have h2:=hr1.perm (L':=(g+2,.cells Tryz.zeroCells47 47 (0,0))::(g+3,.cells Tryz.zeroCells52 52 (0,0))::(g+1,.cells CC 50 (0,0))::(g,.cells M0 47 (0,0))::F) ze;have HR:=za h2;clear hr1 h2 H1;go_wp2_with fail;go_at_call 43;refine(KS.out _ _ HR.out).mono ?_;rintro e wt ⟨rfl,rfl⟩
  go_wp2_with (first|(with_reducible refine zb 23 rfl (by kernel_rfl) 47 (.tmp 3) rfl g 0 rfl M0 _ (ST.out _ _ HR.out (by simp)).1 Tryz.underlying47 rfl I0.out ?_)|(with_reducible refine zh rfl 52 _ rfl _ ?_ (BZ.out _) ?_;·go_simp)|(with_reducible refine zc rfl 47 (.tmp 6) (.tmp 23) rfl (g:=g+2) (off:=0) M0 rfl rfl HR.out SF.out I0.out O0.out ?_;intro w6 h6;refine Hid.out ?_))
  refine za ?_;rw[SM.out]at h6;have h7:=h6.perm (L':=(g+3,.cells Tryz.zeroCells52 52 (0,0))::(g+2,.cells M0 47 (0,0))::(g+1,.cells CC 50 (0,0))::(g,.cells M0 47 (0,0))::F) ze;have H7:=za h7;clear h6 h7 HR
  go_wp2_with (with_reducible refine zc rfl 52 (.tmp 7) (.tmp 24) rfl (g:=g+3) (off:=0) R rfl rfl H7.out RF.out RAI.out RAO.out ?_;intro w8 h8;refine Hid.out ?_)
  refine za ?_;rw[RM.out]at h8;have HZ:=za h8;clear h8 H7;go_wp2_with fail;refine bodyPost_ret (yq rfl _ _ (g+2) (g+3) 47 52 M0 R (0,0) (0,0) _ _ _ rfl rfl rfl (HZ.out.own (g+2,.cells M0 47 (0,0)) (by simp)) (HZ.out.own (g+3,.cells R 52 (0,0)) (by simp)) Tryz.underlying47 (by kernel_rfl) I0.out Tryz.underlying52 (by kernel_rfl) RAI.out) rfl ?_;exact⟨rfl,HZ.out.weaken (A:=[_,_,_,_])⟩
theorem rfc_two_no {A:Option Addr} (tb:Go.Proofs.YtnjnooeldkideaaGreatDoor.TB W J) (q:Cl) (qok:q.Ok) (hqs:q.name.size≤1000000) (c:Nat) (ok:m.Ok) (b0:0≤m.began) (b1:m.began≤1000000) (hrd:Rd W J Ln 1 A (y2 ns)) (hn:ns.length≤1000) (hsz:∀s∈ns,s.size≤1000000) (hL:∀p∈Ln,p∈F) (store:Int) (h:St W w J F) (hr:y3 q=true) (hs:keptB store=true) (hk:q.kind=2) (hc:(!m.job.live||(q.job != 0&&q.job != m.job.number))=true):Calls Tryz.prog 20 #[.agg (stC m (.slice A ns.length c)),q.val,.int .i64 store] w (DPost W J F (.slice A ns.length c) (failD m 252 store)):=by
 unfold DPost failD;dsimp only;have h1:=(((h.alloc (.cells (stC m (.slice A ns.length c)) 47)).alloc (.cells q.cells 50)).alloc (.cells Tryz.zeroCells47 47)).alloc (.cells Tryz.zeroCells52 52);obtain⟨g,hg⟩:∃g,w.heap.size=g:=⟨_,rfl⟩;simp only[World.size_alloc,hg,Nat.add_assoc,Nat.reduceAdd]at h1;have s0:=zy (nv:=(.slice A ns.length c)) ok;have i0:=zz (nv:=(.slice A ns.length c)) ok;have o0:=ye (m:=m) (nv:=(.slice A ns.length c)) rfl
 have st:=fun(v:World) (X:List (Nat × Obj)) (hv:St W v J X) (hm:(g,Obj.cells (stC m (.slice A ns.length c)) 47 (0,0))∈X)=>(⟨(hv.stt ok hm).all,(hv.stt ok hm).live,(hv.stt ok hm).known,(hv.stt ok hm).number,(hv.stt ok hm).slot,(hv.stt ok hm).state,(hv.stt ok hm).fault⟩:v.rangeAt g 0 (stC m (.slice A ns.length c)).toList∧v.cell? ⟨g,81,none⟩=some (.bool m.job.live)∧v.rangeAt g 0 m.known.cells.toList∧v.cell? ⟨g,77,none⟩=some (.int .i64 m.job.number)∧v.cell? ⟨g,82,none⟩=some (.int .i64 m.job.slot)∧v.cell? ⟨g,78,none⟩=some (.int .i64 m.job.state)∧v.cell? ⟨g,79,none⟩=some (.int .i64 m.job.fault))
 have fq:=fun(v:World) (X:List (Nat × Obj)) (hv:St W v J X) (hm:(g+1,Obj.cells q.cells 50 (0,0))∈X)=>(⟨hv.whole hm,(hv.clf hm).2⟩:v.rangeAt (g+1) 0 q.cells.toList∧v.cell? ⟨g+1,1,none⟩=some (.int .i64 q.kind)∧v.cell? ⟨g+1,2,none⟩=some (.int .i64 q.slot)∧v.cell? ⟨g+1,3,none⟩=some (.int .i64 q.job)∧v.cell? ⟨g+1,4,none⟩=some (.string q.name))
 have qi:=ky q
 have kr:=fun(v:World) (X:List (Nat × Obj)) (hv:St W v J X)=>kq tb q qok hv
 have ks:=fun(v:World) (X:List (Nat × Obj)) (hv:St W v J X)=>y5 store hv
 unfold Cl.val at *;obtain⟨lv,hlv⟩:∃z,m.job.live=z:=⟨_,rfl⟩;obtain⟨jn,hjn⟩:∃z,m.job.number=z:=⟨_,rfl⟩;rw[hlv,hjn]at hc;rw[hlv,hjn]at st;obtain⟨M0,hM0⟩:∃z,stC m (.slice A ns.length c)=z:=⟨_,rfl⟩;rw[hM0]at h1 s0 i0 o0 st ⊢;rw[hr]at kr;rw[hs]at ks;obtain⟨cl,ck,cs0,cj,cn⟩:=q;simp only at hk fq hc ⊢;subst hk;obtain⟨CC,hCC⟩:∃z,Cl.cells _=z:=⟨(⟨cl,_,cs0,cj,cn⟩:Cl).cells,rfl⟩;rw[hCC]at h1 kr qi fq ⊢
 have kf:=fun(v:World) (X:List (Nat × Obj)) (hv:St W v J X)=>jh (252) hv
 have rsz:=Ry.size (r:=(⟨252,0,0,0,0,zTb⟩:Ry)) zt;have rai:=yu (r:=(⟨252,0,0,0,0,zTb⟩:Ry)) zt;have rao:=Ry.one (⟨252,0,0,0,0,zTb⟩:Ry);obtain⟨R,hR⟩:∃z,(⟨252,0,0,0,0,zTb⟩:Ry).cells=z:=⟨_,rfl⟩;rw[hR]at kf rsz rai rao ⊢;obtain⟨sb,hsb⟩:∃b,(store==0)=b:=⟨_,rfl⟩;rw[hsb]
 have rfit:0+R.size≤Tryz.zeroCells52.size:=by rw[rsz,zry];omega
 have rmany:zg Tryz.zeroCells52 0 R.toList=R:=by rw[zd _ _ (by rw[Array.length_toList,rsz,zry]),Array.toArray_toList]
 have sfit:0+M0.size≤Tryz.zeroCells47.size:=by rw[s0,zst];omega
 have smany:zg Tryz.zeroCells47 0 M0.toList=M0:=by rw[zd _ _ (by rw[Array.length_toList,s0,zst]),Array.toArray_toList]
 have KF:=za kf;have RAI:=za rai;have RAO:=za rao;have RF:=za rfit;have RM:=za rmany;have SF:=za sfit;have SM:=za smany;clear kf rai rao rfit rmany rsz hR sfit smany s0;have H1:=za h1;have ST:=za st;have FQ:=za fq;have QI:=za qi;have KR:=za kr;have KS:=za ks;have I0:=za i0;have O0:=za o0;have HL:=za hL;clear h1 st fq qi kr ks i0 o0 hL h qok hqs ok b0 b1 hrd hn hsz tb hM0 hr hs;clear hlv hjn
 have hd:lv=false∨(lv=true∧(cj != 0)=true∧(cj != jn)=true):=by
  cases lv with
  | false=>exact .inl rfl
  | true=>exact .inr ⟨rfl,by simpa using hc⟩
 clear hc
 rcases hd with rfl|⟨rfl,d1,d2⟩
 all_goals
  go_enter Tryz.func20,Tryz.ntmps20
  go_wp2_with (with_reducible refine zb 15 rfl (by kernel_rfl) 50 (.tmp 4) rfl (g+1) 0 rfl CC _ (FQ.out _ _ H1.out (by simp)).1 Tryz.underlying50 rfl QI.out ?_)
  go_at_call 42;refine(KR.out _ _ H1.out).mono ?_;rintro e wr ⟨rfl,hr1⟩;have h2:=hr1.perm (L':=(g+2,.cells Tryz.zeroCells47 47 (0,0))::(g+3,.cells Tryz.zeroCells52 52 (0,0))::(g+1,.cells CC 50 (0,0))::(g,.cells M0 47 (0,0))::F) ze;have HR:=za h2;clear hr1 h2 H1;go_wp2_with fail;go_at_call 43;refine(KS.out _ _ HR.out).mono ?_;rintro e wt ⟨rfl,rfl⟩;obtain⟨-,e1,e2,e3,e4⟩:=FQ.out _ _ HR.out (by simp);obtain⟨-,c81,-,c77,c82,c78,c79⟩:=ST.out _ _ HR.out (by simp);go_wp2_with fail;clear e1 e2 e3 e4 c81 c77 c82 c78 c79;have h5:=(HR.out.drew1).perm (L':=(g+2,.cells Tryz.zeroCells47 47 (0,0))::(g+3,.cells Tryz.zeroCells52 52 (0,0))::(g+1,.cells CC 50 (0,0))::(g,.cells M0 47 (0,0))::F) ze;have HDW:=za h5;clear h5;have HUS:=za Tryz.underlying47;have s1:=(ST.out _ _ HDW.out (by simp)).1;refine wp_region_held_drew (S:=fun v=>v.rangeAt g 0 M0.toList) (by kernel_rfl) s1 (fun hHeld=>?_)
  refine tk op0 (v:=?_) (by kernel_rfl) ?_ (by assumption) ?_ fun _ _ _ h=>h
  rotate_left
  ·(((refine yieldsIf_load_mid ?_ 47 (.tmp 3) ?_ (g) 0 ?_ M0.toList _ ?_ HUS.out ?_ I0.out)<;>first|rfl|exact fun w h=>h))
  try simp only[Act.put,pu1,pu2,pu3]
  refine tk op2 (v:=?_) (by kernel_rfl) ?_ (by assumption) ?_ fun _ _ _ h=>h
  rotate_left
  ·(refine ya rfl fun w hSw=>?_;go_simp;rfl)
  try simp only[Act.put,pu1,pu2,pu3]
  refine tk op3 (v:=?_) (by kernel_rfl) ?_ (by assumption) ?_ fun _ _ _ h=>h
  rotate_left
  ·(refine ya rfl fun w hSw=>?_;go_simp;rfl)
  try simp only[Act.put,pu1,pu2,pu3]
  refine rd1 op1 (by kernel_rfl) fun K hK=>?_
  go_simp
  ((go_at_call 45;(with_reducible refine(KF.out _ _ HDW.out).mono ?_);rintro e wx ⟨rfl,hx⟩;dsimp only))
  refine hK.out _ _ ?_ fun hHeld=>?_
  ·(try dsimp only)<;>((exact(ST.out _ _ hx (by simp)).1))
  clear hK K
  try simp only[Act.put,pu1,pu2,pu3]
  refine rd1 op4 (by kernel_rfl) fun K hK=>?_
  ((refine zq rfl 47 (.tmp 6) (.tmp 54) rfl (g:=g+2) (off:=0) M0 rfl rfl hx SF.out I0.out O0.out ?_;intro wa ha;rw[SM.out]at ha;dsimp only))
  refine hK.out _ _ ?_ fun hHeld=>?_
  ·(try dsimp only)<;>((exact(ST.out _ _ ha (by simp)).1))
  clear hK K
  try simp only[Act.put,pu1,pu2,pu3]
  refine rd1 op5 (by kernel_rfl) fun K hK=>?_
  ((refine zq rfl 52 (.tmp 7) (.tmp 55) rfl (g:=g+3) (off:=0) R rfl rfl (ha.perm (L':=(g+3,.cells Tryz.zeroCells52 52 (0,0))::(g+2,.cells M0 47 (0,0))::(g+1,.cells CC 50 (0,0))::(g,.cells M0 47 (0,0))::F) ze) RF.out RAI.out RAO.out ?_;intro wf hf;rw[RM.out]at hf;dsimp only))
  refine hK.out _ _ ?_ fun hHeld=>?_
  ·(try dsimp only)<;>((exact(ST.out _ _ hf (by simp)).1))
  clear hK K
  try simp only[Act.put,pu1,pu2,pu3]
  refine tk op6 (v:=?_) (by kernel_rfl) ?_ (by assumption) ?_ fun _ _ _ h=>h
  rotate_left
  ·(refine ya rfl fun w hSw=>?_;go_simp;rfl)
  try simp only[Act.put,pu1,pu2,pu3]
  refine wpAnyH_done (by kernel_rfl) ?_ _;have HZ:=za hf;clear hf ha hx HDW s1;go_wp2_with fail;refine bodyPost_ret (yq rfl _ _ (g+2) (g+3) 47 52 M0 R (0,0) (0,0) _ _ _ rfl rfl rfl (HZ.out.own (g+2,.cells M0 47 (0,0)) (by simp)) (HZ.out.own (g+3,.cells R 52 (0,0)) (by simp)) Tryz.underlying47 (by kernel_rfl) I0.out Tryz.underlying52 (by kernel_rfl) RAI.out) rfl ?_;exact⟨rfl,HZ.out.weaken (A:=[_,_,_,_])⟩
theorem rfc_two {A:Option Addr} (tb:Go.Proofs.YtnjnooeldkideaaGreatDoor.TB W J) (q:Cl) (qok:q.Ok) (hqs:q.name.size≤1000000) (c:Nat) (ok:m.Ok) (b0:0≤m.began) (b1:m.began≤1000000) (hrd:Rd W J Ln 1 A (y2 ns)) (hn:ns.length≤1000) (hsz:∀s∈ns,s.size≤1000000) (hL:∀p∈Ln,p∈F) (store:Int) (h:St W w J F) (hr:y3 q=true) (hs:keptB store=true) (hk:q.kind=2) (hc:(!m.job.live||(q.job != 0&&q.job != m.job.number))=false):Calls Tryz.prog 20 #[.agg (stC m (.slice A ns.length c)),q.val,.int .i64 store] w (DPost W J F (.slice A ns.length c) ({ m with job:={ m.job with live:=false,state:=4 } },zRy,store==0)):=by
 unfold DPost;dsimp only;have h1:=(((h.alloc (.cells (stC m (.slice A ns.length c)) 47)).alloc (.cells q.cells 50)).alloc (.cells Tryz.zeroCells47 47)).alloc (.cells Tryz.zeroCells52 52);obtain⟨g,hg⟩:∃g,w.heap.size=g:=⟨_,rfl⟩;simp only[World.size_alloc,hg,Nat.add_assoc,Nat.reduceAdd]at h1;have s0:=zy (nv:=(.slice A ns.length c)) ok;have i0:=zz (nv:=(.slice A ns.length c)) ok;have o0:=ye (m:=m) (nv:=(.slice A ns.length c)) rfl
 have st:=fun(v:World) (X:List (Nat × Obj)) (hv:St W v J X) (hm:(g,Obj.cells (stC m (.slice A ns.length c)) 47 (0,0))∈X)=>(⟨(hv.stt ok hm).all,(hv.stt ok hm).live,(hv.stt ok hm).known,(hv.stt ok hm).number,(hv.stt ok hm).slot,(hv.stt ok hm).state,(hv.stt ok hm).fault⟩:v.rangeAt g 0 (stC m (.slice A ns.length c)).toList∧v.cell? ⟨g,81,none⟩=some (.bool m.job.live)∧v.rangeAt g 0 m.known.cells.toList∧v.cell? ⟨g,77,none⟩=some (.int .i64 m.job.number)∧v.cell? ⟨g,82,none⟩=some (.int .i64 m.job.slot)∧v.cell? ⟨g,78,none⟩=some (.int .i64 m.job.state)∧v.cell? ⟨g,79,none⟩=some (.int .i64 m.job.fault))
 have fq:=fun(v:World) (X:List (Nat × Obj)) (hv:St W v J X) (hm:(g+1,Obj.cells q.cells 50 (0,0))∈X)=>(⟨hv.whole hm,(hv.clf hm).2⟩:v.rangeAt (g+1) 0 q.cells.toList∧v.cell? ⟨g+1,1,none⟩=some (.int .i64 q.kind)∧v.cell? ⟨g+1,2,none⟩=some (.int .i64 q.slot)∧v.cell? ⟨g+1,3,none⟩=some (.int .i64 q.job)∧v.cell? ⟨g+1,4,none⟩=some (.string q.name))
 have qi:=ky q
 have kr:=fun(v:World) (X:List (Nat × Obj)) (hv:St W v J X)=>kq tb q qok hv
 have ks:=fun(v:World) (X:List (Nat × Obj)) (hv:St W v J X)=>y5 store hv
 unfold Cl.val at *;have nok:({ m with job:={ m.job with live:=false,state:=4 } }:Md).Ok:=⟨ok.known,ok.t0,ok.t1,ql ok.job.n0 ok.job.n1 (by decide) (by decide) ok.job.e0 ok.job.e1 ok.job.l0 ok.job.l1 ok.job.f0 ok.job.f1,ok.b0,ok.b1⟩;have p0:=kz m { m with job:={ m.job with live:=false } } (.slice A ns.length c) (.bool false) 6 ok.known rfl (by decide) rfl;have p1:=kz { m with job:={ m.job with live:=false } } { m with job:={ m.job with live:=false,state:=4 } } (.slice A ns.length c) (.int .i64 4) 3 ok.known rfl (by decide) rfl;have z1:(stC { m with job:={ m.job with live:=false } } (.slice A ns.length c)).size=84:=jj ok.known;have z2:(stC { m with job:={ m.job with live:=false,state:=4 } } (.slice A ns.length c)).size=84:=jj ok.known;have i2:=zz (nv:=(.slice A ns.length c)) nok;have o2:=ye (m:={ m with job:={ m.job with live:=false,state:=4 } }) (nv:=(.slice A ns.length c)) rfl
 have e2:=fun(v:World) (X:List (Nat × Obj)) (b:Nat) (hv:St W v J X) (hm:(b,Obj.cells (stC { m with job:={ m.job with live:=false,state:=4 } } (.slice A ns.length c)) 47 (0,0))∈X)=>(hv.stt nok hm).all
 have rsz:=Ry.size (r:=zRy) zt;have rai:=yu (r:=zRy) zt;have rao:=Ry.one zRy;have bz:=km;obtain⟨R,hR⟩:∃z,zRy.cells=z:=⟨_,rfl⟩;rw[hR]at rsz rai rao bz ⊢;obtain⟨M1,hM1⟩:∃z,stC { m with job:={ m.job with live:=false } } (.slice A ns.length c)=z:=⟨_,rfl⟩;obtain⟨M2,hM2⟩:∃z,stC { m with job:={ m.job with live:=false,state:=4 } } (.slice A ns.length c)=z:=⟨_,rfl⟩;rw[hM1]at p0 p1 z1;rw[hM2]at p1 z2 i2 o2 e2 ⊢;obtain⟨lv,hlv⟩:∃z,m.job.live=z:=⟨_,rfl⟩;obtain⟨jn,hjn⟩:∃z,m.job.number=z:=⟨_,rfl⟩;rw[hlv,hjn]at hc;rw[hlv,hjn]at st;obtain⟨M0,hM0⟩:∃z,stC m (.slice A ns.length c)=z:=⟨_,rfl⟩;rw[hM0]at h1 s0 i0 o0 st p0 ⊢
 have rfit:0+R.size≤Tryz.zeroCells52.size:=by rw[rsz,zry];omega
 have rmany:zg Tryz.zeroCells52 0 R.toList=R:=by rw[zd _ _ (by rw[Array.length_toList,rsz,zry]),Array.toArray_toList]
 have sfit:0+M0.size≤Tryz.zeroCells47.size:=by rw[s0,zst];omega
 have smany:zg Tryz.zeroCells47 0 M0.toList=M0:=by rw[zd _ _ (by rw[Array.length_toList,s0,zst]),Array.toArray_toList]
 have sfit2:0+M2.size≤Tryz.zeroCells47.size:=by rw[z2,zst];omega
 have smany2:zg Tryz.zeroCells47 0 M2.toList=M2:=by rw[zd _ _ (by rw[Array.length_toList,z2,zst]),Array.toArray_toList]
 have Z0:=za (show 81 < M0.size by rw[s0];decide);have Z1:=za (show 78 < M1.size by rw[z1];decide);have IB:=za (show(Tryz.prog.info? 4).map (·.size)=some 1 by kernel_rfl);have I1:=za (show(Tryz.prog.info? 3).map (·.size)=some 1 by kernel_rfl);have P0:=za p0;have P1:=za p1;have I2:=za i2;have O2:=za o2;have E2:=za e2;have RAI:=za rai;have RAO:=za rao;have BZ:=za bz;have RF:=za rfit;have RM:=za rmany;have SF:=za sfit;have SM:=za smany;have SF2:=za sfit2;have SM2:=za smany2;obtain⟨sb,hsb⟩:∃b,(store==0)=b:=⟨_,rfl⟩;rw[hsb];clear p0 p1 i2 o2 e2 rai rao bz rfit rmany sfit smany sfit2 smany2 rsz z1 z2 s0 hM1 hM2 hR nok;rw[hr]at kr;rw[hs]at ks;obtain⟨cl,ck,cs0,cj,cn⟩:=q;simp only at hk fq hc ⊢;subst hk;obtain⟨CC,hCC⟩:∃z,Cl.cells _=z:=⟨(⟨cl,_,cs0,cj,cn⟩:Cl).cells,rfl⟩;rw[hCC]at h1 kr qi fq ⊢;have H1:=za h1;have ST:=za st;have FQ:=za fq;have QI:=za qi;have KR:=za kr;have KS:=za ks;have I0:=za i0;have O0:=za o0;have HL:=za hL;clear h1 st fq qi kr ks i0 o0 hL h qok hqs ok b0 b1 hrd hn hsz tb hM0 hr hs;clear hlv hjn
 have hd:lv=true∧((cj != 0)=false∨((cj != 0)=true∧(cj != jn)=false)):=by
  cases lv with
  | false=>simp at hc
  | true=>
   refine⟨rfl,?_⟩
   cases d0:(cj != 0) with
   | false=>exact .inl rfl
   | true=>exact .inr ⟨rfl,by simpa[d0] using hc⟩
 clear hc;obtain⟨rfl,hd⟩:=hd
 rcases hd with d1|⟨d1,d2⟩
 all_goals
  go_enter Tryz.func20,Tryz.ntmps20
  go_wp2_with (with_reducible refine zb 15 rfl (by kernel_rfl) 50 (.tmp 4) rfl (g+1) 0 rfl CC _ (FQ.out _ _ H1.out (by simp)).1 Tryz.underlying50 rfl QI.out ?_)
  go_at_call 42;refine(KR.out _ _ H1.out).mono ?_;rintro e wr ⟨rfl,hr1⟩;have h2:=hr1.perm (L':=(g+2,.cells Tryz.zeroCells47 47 (0,0))::(g+3,.cells Tryz.zeroCells52 52 (0,0))::(g+1,.cells CC 50 (0,0))::(g,.cells M0 47 (0,0))::F) ze;have HR:=za h2;clear hr1 h2 H1;go_wp2_with fail;go_at_call 43;refine(KS.out _ _ HR.out).mono ?_;rintro e wt ⟨rfl,rfl⟩;obtain⟨-,e1,e2,e3,e4⟩:=FQ.out _ _ HR.out (by simp);obtain⟨-,c81,-,c77,c82,c78,c79⟩:=ST.out _ _ HR.out (by simp);have hn:=HR.out.alloc (.cells Tryz.zeroCells47 47);have HN:=za hn;clear hn
  go_wp2_with (first|(with_reducible refine zb 58 rfl (by kernel_rfl) 47 (.tmp 3) rfl g 0 rfl M0 _ (ST.out _ _ HR.out (by simp)).1 Tryz.underlying47 rfl I0.out ?_)|(with_reducible refine zc rfl 47 (.tmp 9) (.tmp 58) rfl (g:=wt.heap.size) (off:=0) M0 rfl rfl HN.out SF.out I0.out O0.out ?_;intro w3 h3;refine Hid.out ?_))
  refine za ?_;rw[SM.out]at h3;obtain⟨gx,hgx⟩:∃y,wt.heap.size=y:=⟨_,rfl⟩;rw[hgx]at h3 ⊢;have H3:=za h3;clear h3 HN HR hgx e1 e2 e3 e4 c81 c77 c82 c78 c79
  go_wp2_with (with_reducible refine zk rfl 4 (.tmp 59) (.const (.bool false)) rfl (g:=gx) (off:=81) (.bool false) rfl rfl rfl H3.out Z0.out IB.out rfl ?_;intro w5 h5;refine Hid.out ?_)
  refine za ?_;rw[show zg M0 81 [.bool false]=M1 from P0.out]at h5;have H4:=za h5;clear h5 H3
  go_wp2_with (with_reducible refine zk rfl 3 (.tmp 60) (.const (.int .i64 4)) rfl (g:=gx) (off:=78) (.int .i64 4) rfl rfl rfl H4.out Z1.out I1.out rfl ?_;intro w5 h5;refine Hid.out ?_)
  refine za ?_;rw[show zg M1 78 [.int .i64 4]=M2 from P1.out]at h5;have h6:=h5.perm (L':=(g+2,.cells Tryz.zeroCells47 47 (0,0))::(g+3,.cells Tryz.zeroCells52 52 (0,0))::(gx,.cells M2 47 (0,0))::(g+1,.cells CC 50 (0,0))::(g,.cells M0 47 (0,0))::F) ze;have H5:=za h6;clear h5 h6 H4
  go_wp2_with (first|(with_reducible refine zb 61 rfl (by kernel_rfl) 47 (.tmp 9) rfl gx 0 rfl M2 _ (E2.out _ _ gx H5.out (by simp)) Tryz.underlying47 rfl I2.out ?_)|(with_reducible refine zh rfl 52 _ rfl _ ?_ (BZ.out _) ?_;·go_simp)|(with_reducible refine zc rfl 47 (.tmp 6) (.tmp 61) rfl (g:=g+2) (off:=0) M2 rfl rfl H5.out SF2.out I2.out O2.out ?_;intro w6 h6;refine Hid.out ?_))
  refine za ?_;rw[SM2.out]at h6;have h7:=h6.perm (L':=(g+3,.cells Tryz.zeroCells52 52 (0,0))::(g+2,.cells M2 47 (0,0))::(gx,.cells M2 47 (0,0))::(g+1,.cells CC 50 (0,0))::(g,.cells M0 47 (0,0))::F) ze;have H7:=za h7;clear h6 h7 H5
  go_wp2_with (with_reducible refine zc rfl 52 (.tmp 7) (.tmp 62) rfl (g:=g+3) (off:=0) R rfl rfl H7.out RF.out RAI.out RAO.out ?_;intro w8 h8;refine Hid.out ?_)
  refine za ?_;rw[RM.out]at h8;have HZ:=za h8;clear h8 H7;go_wp2_with fail;refine bodyPost_ret (yq rfl _ _ (g+2) (g+3) 47 52 M2 R (0,0) (0,0) _ _ _ rfl rfl rfl (HZ.out.own (g+2,.cells M2 47 (0,0)) (by simp)) (HZ.out.own (g+3,.cells R 52 (0,0)) (by simp)) Tryz.underlying47 (by kernel_rfl) I2.out Tryz.underlying52 (by kernel_rfl) RAI.out) rfl ?_;exact⟨rfl,HZ.out.weaken (A:=[_,_,_,_,_])⟩
end
end Go.Proofs.YtnjnooeldkideaaGreatDoor
