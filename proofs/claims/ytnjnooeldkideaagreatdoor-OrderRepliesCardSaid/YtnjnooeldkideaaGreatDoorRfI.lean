/- order: the document's install. -/
import Derived.Test.YtnjnooeldkideaaGreatDoorMRname
import Derived.Test.YtnjnooeldkideaaGreatDoorMOrT
namespace Go.Proofs.YtnjnooeldkideaaGreatDoor
set_option maxRecDepth 100000
set_option maxHeartbeats 4000000
set_option linter.unusedVariables false
set_option linter.unusedSimpArgs false
open Go.RowKit Go.Lib Go.Deep
section
variable {W w:World} {J:Nat→Option Obj} {t:Tb} {F:List (Nat × Obj)}
variable {m:Md} {nv:Value} {ns:List ByteArray} {Ln:List (Nat × Obj)}
theorem kz (m m':Md) (nv v:Value) (j:Nat) (ok:m.known.Ok) (hk:m'.known=m.known) (hj:j < 9) (h:(stT m nv).set j v=stT m' nv):zg (stC m nv) (75+j) [v]=stC m' nv:=by
 have hj':j < (stT m nv).length:=hj
 have hl:(m.known.cells.toList++(stT m nv).take j).length=75+j:=by
  rw[List.length_append,Array.length_toList,Tb.size ok,List.length_take,Nat.min_eq_left (Nat.le_of_lt hj')]
 have e:=yb (m.known.cells.toList++(stT m nv).take j) [(stT m nv)[j]] [v] ((stT m nv).drop (j+1)) rfl;rw[hl,List.append_assoc,List.append_assoc]at e
 have b:stT m' nv=(stT m nv).take j++([v]++(stT m nv).drop (j+1)):=by
  rw[←h,List.set_eq_take_append_cons_drop,if_pos hj']
  rfl
 have a:(stT m nv).take j++([(stT m nv)[j]]++(stT m nv).drop (j+1))=stT m nv:=by simp
 unfold stC;rw[hk,b,←e,a]
def DPost (W:World) (J:Nat→Option Obj) (F:List (Nat × Obj)) (nv:Value) (r:Md × Ry × Bool) (e:Ending) (w':World):Prop:=e=.returned (.tuple #[.agg (stC r.1 nv),.agg r.2.1.cells,.bool r.2.2])∧St W w' J F
def nextI (m:Md):Md:={ m with job:=⟨m.began+1,1,0,true,aimT m.known,m.known.flo⟩,began:=m.began+1 }
def failD (m:Md) (e store:Int):Md × Ry × Bool:=(m,⟨e,0,0,0,0,zTb⟩,store==0)
def keepD (m m':Md) (cs:List Cg) (r:Ry) (store:Int):Md × Ry × Bool:=((keepM m m' cs r store).1,(keepM m m' cs r store).2,true)
def instD (m:Md) (ns:List ByteArray) (x:ByteArray) (store:Int):Md × Ry × Bool:=
 if m.job.live=true then failD m 251 store else if hasB ns (foldB x)=false then failD m 182 store else if (wipeT m.known).2≠0 then failD m (wipeT m.known).2 store else keepD m (nextI m) (wipeT m.known).1 ⟨0,m.began+1,0,0,0,zTb⟩ store
theorem rfi_live {A:Option Addr} (tb:Go.Proofs.YtnjnooeldkideaaGreatDoor.TB W J) (x:ByteArray) (hx:x.size≤1000000) (c:Nat) (ok:m.Ok) (hrd:Rd W J Ln 1 A (y2 ns)) (hn:ns.length≤1000) (hsz:∀s∈ns,s.size≤1000000) (hL:∀p∈Ln,p∈F) (store:Int) (h:St W w J F) (hlv:m.job.live=true):Calls Tryz.prog 44 #[.agg (stC m (.slice A ns.length c)),.string x,.int .i64 store] w (DPost W J F (.slice A ns.length c) (failD m 251 store)):=by
 unfold DPost failD;dsimp only;have h1:=((h.alloc (.cells (stC m (.slice A ns.length c)) 47)).alloc (.cells Tryz.zeroCells47 47)).alloc (.cells Tryz.zeroCells52 52);obtain⟨g,hg⟩:∃g,w.heap.size=g:=⟨_,rfl⟩;simp only[World.size_alloc,hg,Nat.add_assoc,Nat.reduceAdd]at h1;have s0:=zy (nv:=(.slice A ns.length c)) ok;have i0:=zz (nv:=(.slice A ns.length c)) ok;have o0:=ye (m:=m) (nv:=(.slice A ns.length c)) rfl
 have st:=fun(v:World) (X:List (Nat × Obj)) (hv:St W v J X) (hm:(g,Obj.cells (stC m (.slice A ns.length c)) 47 (0,0))∈X)=>(⟨(hv.stt ok hm).all,(hv.stt ok hm).live,(hv.stt ok hm).known,(hv.cell hm 74).trans ((stC_t ok 74 (by omega)).trans (Tb.gt ok.known 2))⟩:v.rangeAt g 0 (stC m (.slice A ns.length c)).toList∧v.cell? ⟨g,81,none⟩=some (.bool m.job.live)∧v.rangeAt g 0 m.known.cells.toList∧v.cell? ⟨g,74,none⟩=some (.int .u64 m.known.flo))
 obtain⟨-,c81,-,-⟩:=st _ _ h1 (by simp);rw[hlv]at c81;obtain⟨M0,hM0⟩:∃y,stC m (.slice A ns.length c)=y:=⟨_,rfl⟩;rw[hM0]at h1 s0 i0 o0 st c81 ⊢
 have kf:=fun(v:World) (X:List (Nat × Obj)) (hv:St W v J X)=>jh (251) hv
 have rsz:=Ry.size (r:=(⟨251,0,0,0,0,zTb⟩:Ry)) zt;have rai:=yu (r:=(⟨251,0,0,0,0,zTb⟩:Ry)) zt;have rao:=Ry.one (⟨251,0,0,0,0,zTb⟩:Ry);obtain⟨R,hR⟩:∃z,(⟨251,0,0,0,0,zTb⟩:Ry).cells=z:=⟨_,rfl⟩;rw[hR]at kf rsz rai rao ⊢;obtain⟨sb,hsb⟩:∃b,(store==0)=b:=⟨_,rfl⟩;rw[hsb]
 have rfit:0+R.size≤Tryz.zeroCells52.size:=by rw[rsz,zry];omega
 have rmany:zg Tryz.zeroCells52 0 R.toList=R:=by rw[zd _ _ (by rw[Array.length_toList,rsz,zry]),Array.toArray_toList]
 have sfit:0+M0.size≤Tryz.zeroCells47.size:=by rw[s0,zst];omega
 have smany:zg Tryz.zeroCells47 0 M0.toList=M0:=by rw[zd _ _ (by rw[Array.length_toList,s0,zst]),Array.toArray_toList]
 have H1:=za h1;have KF:=za kf;have RAI:=za rai;have RAO:=za rao;have RF:=za rfit;have RM:=za rmany;have SF:=za sfit;have SM:=za smany;have I0:=za i0;have O0:=za o0;have ST:=za st;clear h1 kf rai rao rfit rmany rsz hR h sfit smany i0 o0 st s0 hM0;clear hlv ok hrd hn hsz hL tb hx
 go_enter Tryz.func44,Tryz.ntmps44
 go_wp2_with fail;have h5:=(H1.out.drew1).perm (L':=(g+1,.cells Tryz.zeroCells47 47 (0,0))::(g+2,.cells Tryz.zeroCells52 52 (0,0))::(g,.cells M0 47 (0,0))::F) ze;have HDW:=za h5;clear h5;have HUS:=za Tryz.underlying47;have s1:=(ST.out _ _ HDW.out (by simp)).1;refine wp_region_held_drew (S:=fun v=>v.rangeAt g 0 M0.toList) (by kernel_rfl) s1 (fun hHeld=>?_)
 refine tk op0 (v:=?_) (by kernel_rfl) ?_ (by assumption) ?_ fun _ _ _ h=>h
 rotate_left
 ·(((refine yieldsIf_load_mid ?_ 47 (.tmp 3) ?_ (g) 0 ?_ M0.toList _ ?_ HUS.out ?_ I0.out)<;>first|rfl|exact fun w h=>h))
 try simp only[Act.put,pu1,pu2,pu3]
 refine tk op2 (v:=?_) (by kernel_rfl) ?_ (by assumption) ?_ fun _ _ _ h=>h
 rotate_left
 ·(refine ya rfl fun w hSw=>?_;go_simp;rfl)
 try simp only[Act.put,pu1,pu2,pu3]
 refine tk op3 (v:=?_) (by kernel_rfl) ?_ (by assumption) ?_ fun _ _ _ h=>h
 rotate_left
 ·(refine ya rfl fun w hSw=>?_;go_simp;rfl)
 try simp only[Act.put,pu1,pu2,pu3]
 refine rd1 op1 (by kernel_rfl) fun K hK=>?_
 go_simp
 ((go_at_call 45;(with_reducible refine(KF.out _ _ HDW.out).mono ?_);rintro e wx ⟨rfl,hx⟩;dsimp only))
 refine hK.out _ _ ?_ fun hHeld=>?_
 ·(try dsimp only)<;>((exact(ST.out _ _ hx (by simp)).1))
 clear hK K
 try simp only[Act.put,pu1,pu2,pu3]
 refine rd1 op4 (by kernel_rfl) fun K hK=>?_
 ((refine zq rfl 47 (.tmp 6) (.tmp 14) rfl (g:=g+1) (off:=0) M0 rfl rfl hx SF.out I0.out O0.out ?_;intro wa ha;rw[SM.out]at ha;dsimp only))
 refine hK.out _ _ ?_ fun hHeld=>?_
 ·(try dsimp only)<;>((exact(ST.out _ _ ha (by simp)).1))
 clear hK K
 try simp only[Act.put,pu1,pu2,pu3]
 refine rd1 op5 (by kernel_rfl) fun K hK=>?_
 ((refine zq rfl 52 (.tmp 7) (.tmp 15) rfl (g:=g+2) (off:=0) R rfl rfl (ha.perm (L':=(g+2,.cells Tryz.zeroCells52 52 (0,0))::(g+1,.cells M0 47 (0,0))::(g,.cells M0 47 (0,0))::F) ze) RF.out RAI.out RAO.out ?_;intro wf hf;rw[RM.out]at hf;dsimp only))
 refine hK.out _ _ ?_ fun hHeld=>?_
 ·(try dsimp only)<;>((exact(ST.out _ _ hf (by simp)).1))
 clear hK K
 try simp only[Act.put,pu1,pu2,pu3]
 refine tk op6 (v:=?_) (by kernel_rfl) ?_ (by assumption) ?_ fun _ _ _ h=>h
 rotate_left
 ·(refine ya rfl fun w hSw=>?_;go_simp;rfl)
 try simp only[Act.put,pu1,pu2,pu3]
 refine wpAnyH_done (by kernel_rfl) ?_ _;have HZ:=za hf;clear hf ha hx HDW s1;go_wp2_with fail;refine bodyPost_ret (yq rfl _ _ (g+1) (g+2) 47 52 M0 R (0,0) (0,0) _ _ _ rfl rfl rfl (HZ.out.own (g+1,.cells M0 47 (0,0)) (by simp)) (HZ.out.own (g+2,.cells R 52 (0,0)) (by simp)) Tryz.underlying47 (by kernel_rfl) I0.out Tryz.underlying52 (by kernel_rfl) RAI.out) rfl ?_;exact⟨rfl,HZ.out.weaken (A:=[_,_,_])⟩
theorem rfi_name {A:Option Addr} (tb:Go.Proofs.YtnjnooeldkideaaGreatDoor.TB W J) (x:ByteArray) (hx:x.size≤1000000) (c:Nat) (ok:m.Ok) (hrd:Rd W J Ln 1 A (y2 ns)) (hn:ns.length≤1000) (hsz:∀s∈ns,s.size≤1000000) (hL:∀p∈Ln,p∈F) (store:Int) (h:St W w J F) (hlv:m.job.live=false) (hno:hasB ns (foldB x)=false):Calls Tryz.prog 44 #[.agg (stC m (.slice A ns.length c)),.string x,.int .i64 store] w (DPost W J F (.slice A ns.length c) (failD m 182 store)):=by
 unfold DPost failD;dsimp only
 have kh:=fun(v:World) (X:List (Nat × Obj)) (hp:∀p∈Ln,p∈X) (hv:St W v J X)=>r26_has tb x hx c ok hrd hn hsz hp hv
 have h1:=((h.alloc (.cells (stC m (.slice A ns.length c)) 47)).alloc (.cells Tryz.zeroCells47 47)).alloc (.cells Tryz.zeroCells52 52);obtain⟨g,hg⟩:∃g,w.heap.size=g:=⟨_,rfl⟩;simp only[World.size_alloc,hg,Nat.add_assoc,Nat.reduceAdd]at h1;have s0:=zy (nv:=(.slice A ns.length c)) ok;have i0:=zz (nv:=(.slice A ns.length c)) ok;have o0:=ye (m:=m) (nv:=(.slice A ns.length c)) rfl
 have st:=fun(v:World) (X:List (Nat × Obj)) (hv:St W v J X) (hm:(g,Obj.cells (stC m (.slice A ns.length c)) 47 (0,0))∈X)=>(⟨(hv.stt ok hm).all,(hv.stt ok hm).live,(hv.stt ok hm).known,(hv.cell hm 74).trans ((stC_t ok 74 (by omega)).trans (Tb.gt ok.known 2))⟩:v.rangeAt g 0 (stC m (.slice A ns.length c)).toList∧v.cell? ⟨g,81,none⟩=some (.bool m.job.live)∧v.rangeAt g 0 m.known.cells.toList∧v.cell? ⟨g,74,none⟩=some (.int .u64 m.known.flo))
 obtain⟨-,c81,-,-⟩:=st _ _ h1 (by simp);rw[hlv]at c81;rw[hno]at kh;obtain⟨M0,hM0⟩:∃y,stC m (.slice A ns.length c)=y:=⟨_,rfl⟩;rw[hM0]at h1 s0 i0 o0 st c81 kh ⊢
 have kf:=fun(v:World) (X:List (Nat × Obj)) (hv:St W v J X)=>jh (182) hv
 have rsz:=Ry.size (r:=(⟨182,0,0,0,0,zTb⟩:Ry)) zt;have rai:=yu (r:=(⟨182,0,0,0,0,zTb⟩:Ry)) zt;have rao:=Ry.one (⟨182,0,0,0,0,zTb⟩:Ry);obtain⟨R,hR⟩:∃z,(⟨182,0,0,0,0,zTb⟩:Ry).cells=z:=⟨_,rfl⟩;rw[hR]at kf rsz rai rao ⊢;obtain⟨sb,hsb⟩:∃b,(store==0)=b:=⟨_,rfl⟩;rw[hsb]
 have rfit:0+R.size≤Tryz.zeroCells52.size:=by rw[rsz,zry];omega
 have rmany:zg Tryz.zeroCells52 0 R.toList=R:=by rw[zd _ _ (by rw[Array.length_toList,rsz,zry]),Array.toArray_toList]
 have sfit:0+M0.size≤Tryz.zeroCells47.size:=by rw[s0,zst];omega
 have smany:zg Tryz.zeroCells47 0 M0.toList=M0:=by rw[zd _ _ (by rw[Array.length_toList,s0,zst]),Array.toArray_toList]
 have H1:=za h1;have KF:=za kf;have RAI:=za rai;have RAO:=za rao;have RF:=za rfit;have RM:=za rmany;have SF:=za sfit;have SM:=za smany;have I0:=za i0;have O0:=za o0;have ST:=za st;clear h1 kf rai rao rfit rmany rsz hR h sfit smany i0 o0 st s0 hM0;have KH:=za kh;have HL:=za hL;clear hlv ok hrd hn hsz hL tb hx kh hno
 go_enter Tryz.func44,Tryz.ntmps44
 go_wp2_with (with_reducible refine zb 18 rfl (by kernel_rfl) 47 (.tmp 3) rfl g 0 rfl M0 _ (ST.out _ _ H1.out (by simp)).1 Tryz.underlying47 rfl I0.out ?_)
 go_at_call 76;refine(KH.out _ _ (fun p hp=>by have:=HL.out p hp;simp[this]) H1.out).mono ?_;rintro e wh ⟨rfl,hh⟩;have HH:=za hh;clear hh H1;go_wp2_with fail;have h5:=(HH.out.drew1).perm (L':=(g+1,.cells Tryz.zeroCells47 47 (0,0))::(g+2,.cells Tryz.zeroCells52 52 (0,0))::(g,.cells M0 47 (0,0))::F) ze;have HDW:=za h5;clear h5;have HUS:=za Tryz.underlying47;have s1:=(ST.out _ _ HDW.out (by simp)).1;refine wp_region_held_drew (S:=fun v=>v.rangeAt g 0 M0.toList) (by kernel_rfl) s1 (fun hHeld=>?_)
 refine tk op0 (v:=?_) (by kernel_rfl) ?_ (by assumption) ?_ fun _ _ _ h=>h
 rotate_left
 ·(((refine yieldsIf_load_mid ?_ 47 (.tmp 3) ?_ (g) 0 ?_ M0.toList _ ?_ HUS.out ?_ I0.out)<;>first|rfl|exact fun w h=>h))
 try simp only[Act.put,pu1,pu2,pu3]
 refine tk op2 (v:=?_) (by kernel_rfl) ?_ (by assumption) ?_ fun _ _ _ h=>h
 rotate_left
 ·(refine ya rfl fun w hSw=>?_;go_simp;rfl)
 try simp only[Act.put,pu1,pu2,pu3]
 refine tk op3 (v:=?_) (by kernel_rfl) ?_ (by assumption) ?_ fun _ _ _ h=>h
 rotate_left
 ·(refine ya rfl fun w hSw=>?_;go_simp;rfl)
 try simp only[Act.put,pu1,pu2,pu3]
 refine rd1 op1 (by kernel_rfl) fun K hK=>?_
 go_simp
 ((go_at_call 45;(with_reducible refine(KF.out _ _ HDW.out).mono ?_);rintro e wx ⟨rfl,hx⟩;dsimp only))
 refine hK.out _ _ ?_ fun hHeld=>?_
 ·(try dsimp only)<;>((exact(ST.out _ _ hx (by simp)).1))
 clear hK K
 try simp only[Act.put,pu1,pu2,pu3]
 refine rd1 op4 (by kernel_rfl) fun K hK=>?_
 ((refine zq rfl 47 (.tmp 6) (.tmp 22) rfl (g:=g+1) (off:=0) M0 rfl rfl hx SF.out I0.out O0.out ?_;intro wa ha;rw[SM.out]at ha;dsimp only))
 refine hK.out _ _ ?_ fun hHeld=>?_
 ·(try dsimp only)<;>((exact(ST.out _ _ ha (by simp)).1))
 clear hK K
 try simp only[Act.put,pu1,pu2,pu3]
 refine rd1 op5 (by kernel_rfl) fun K hK=>?_
 ((refine zq rfl 52 (.tmp 7) (.tmp 23) rfl (g:=g+2) (off:=0) R rfl rfl (ha.perm (L':=(g+2,.cells Tryz.zeroCells52 52 (0,0))::(g+1,.cells M0 47 (0,0))::(g,.cells M0 47 (0,0))::F) ze) RF.out RAI.out RAO.out ?_;intro wf hf;rw[RM.out]at hf;dsimp only))
 refine hK.out _ _ ?_ fun hHeld=>?_
 ·(try dsimp only)<;>((exact(ST.out _ _ hf (by simp)).1))
 clear hK K
 try simp only[Act.put,pu1,pu2,pu3]
 refine tk op6 (v:=?_) (by kernel_rfl) ?_ (by assumption) ?_ fun _ _ _ h=>h
 rotate_left
 ·(refine ya rfl fun w hSw=>?_;go_simp;rfl)
 try simp only[Act.put,pu1,pu2,pu3]
 refine wpAnyH_done (by kernel_rfl) ?_ _;have HZ:=za hf;clear hf ha hx HDW s1;go_wp2_with fail;refine bodyPost_ret (yq rfl _ _ (g+1) (g+2) 47 52 M0 R (0,0) (0,0) _ _ _ rfl rfl rfl (HZ.out.own (g+1,.cells M0 47 (0,0)) (by simp)) (HZ.out.own (g+2,.cells R 52 (0,0)) (by simp)) Tryz.underlying47 (by kernel_rfl) I0.out Tryz.underlying52 (by kernel_rfl) RAI.out) rfl ?_;exact⟨rfl,HZ.out.weaken (A:=[_,_,_])⟩
theorem rfi_wipe {A:Option Addr} (tb:Go.Proofs.YtnjnooeldkideaaGreatDoor.TB W J) (x:ByteArray) (hx:x.size≤1000000) (c:Nat) (ok:m.Ok) (hrd:Rd W J Ln 1 A (y2 ns)) (hn:ns.length≤1000) (hsz:∀s∈ns,s.size≤1000000) (hL:∀p∈Ln,p∈F) (store:Int) (h:St W w J F) (hlv:m.job.live=false) (hno:hasB ns (foldB x)=true) (hw:(wipeT m.known).2≠0):Calls Tryz.prog 44 #[.agg (stC m (.slice A ns.length c)),.string x,.int .i64 store] w (DPost W J F (.slice A ns.length c) (failD m (wipeT m.known).2 store)):=by
 unfold DPost failD;dsimp only
 have kh:=fun(v:World) (X:List (Nat × Obj)) (hp:∀p∈Ln,p∈X) (hv:St W v J X)=>r26_has tb x hx c ok hrd hn hsz hp hv
 have h1:=((h.alloc (.cells (stC m (.slice A ns.length c)) 47)).alloc (.cells Tryz.zeroCells47 47)).alloc (.cells Tryz.zeroCells52 52);obtain⟨g,hg⟩:∃g,w.heap.size=g:=⟨_,rfl⟩;simp only[World.size_alloc,hg,Nat.add_assoc,Nat.reduceAdd]at h1;have s0:=zy (nv:=(.slice A ns.length c)) ok;have i0:=zz (nv:=(.slice A ns.length c)) ok;have o0:=ye (m:=m) (nv:=(.slice A ns.length c)) rfl
 have st:=fun(v:World) (X:List (Nat × Obj)) (hv:St W v J X) (hm:(g,Obj.cells (stC m (.slice A ns.length c)) 47 (0,0))∈X)=>(⟨(hv.stt ok hm).all,(hv.stt ok hm).live,(hv.stt ok hm).known,(hv.cell hm 74).trans ((stC_t ok 74 (by omega)).trans (Tb.gt ok.known 2))⟩:v.rangeAt g 0 (stC m (.slice A ns.length c)).toList∧v.cell? ⟨g,81,none⟩=some (.bool m.job.live)∧v.rangeAt g 0 m.known.cells.toList∧v.cell? ⟨g,74,none⟩=some (.int .u64 m.known.flo))
 obtain⟨-,c81,-,-⟩:=st _ _ h1 (by simp);rw[hlv]at c81
 have kw:=fun(v:World) (X:List (Nat × Obj)) (hv:St W v J X)=>ref_wipe ok.known hv
 have ti:=z7 ok.known;obtain⟨⟨cs,y⟩,hW⟩:∃r,wipeT m.known=r:=⟨_,rfl⟩;rw[hW]at kw hw ⊢;unfold CPost at kw;unfold Tb.val at kw;dsimp only at kw hw ⊢
 have hwb:(y != 0)=true:=by simpa using hw
 obtain⟨C,hC⟩:∃C,m.known.cells=C:=⟨_,rfl⟩;rw[hC]at kw ti st;rw[hno]at kh;obtain⟨M0,hM0⟩:∃y,stC m (.slice A ns.length c)=y:=⟨_,rfl⟩;rw[hM0]at h1 s0 i0 o0 st c81 kh ⊢
 have kf:=fun(v:World) (X:List (Nat × Obj)) (hv:St W v J X)=>jh (y) hv
 have rsz:=Ry.size (r:=(⟨y,0,0,0,0,zTb⟩:Ry)) zt;have rai:=yu (r:=(⟨y,0,0,0,0,zTb⟩:Ry)) zt;have rao:=Ry.one (⟨y,0,0,0,0,zTb⟩:Ry);obtain⟨R,hR⟩:∃z,(⟨y,0,0,0,0,zTb⟩:Ry).cells=z:=⟨_,rfl⟩;rw[hR]at kf rsz rai rao ⊢;obtain⟨sb,hsb⟩:∃b,(store==0)=b:=⟨_,rfl⟩;rw[hsb]
 have rfit:0+R.size≤Tryz.zeroCells52.size:=by rw[rsz,zry];omega
 have rmany:zg Tryz.zeroCells52 0 R.toList=R:=by rw[zd _ _ (by rw[Array.length_toList,rsz,zry]),Array.toArray_toList]
 have sfit:0+M0.size≤Tryz.zeroCells47.size:=by rw[s0,zst];omega
 have smany:zg Tryz.zeroCells47 0 M0.toList=M0:=by rw[zd _ _ (by rw[Array.length_toList,s0,zst]),Array.toArray_toList]
 have H1:=za h1;have KF:=za kf;have RAI:=za rai;have RAO:=za rao;have RF:=za rfit;have RM:=za rmany;have SF:=za sfit;have SM:=za smany;have I0:=za i0;have O0:=za o0;have ST:=za st;clear h1 kf rai rao rfit rmany rsz hR h sfit smany i0 o0 st s0 hM0;have KH:=za kh;have HL:=za hL;have KW:=za kw;have TI:=za ti;clear hlv ok hrd hn hsz hL tb hx kh hno kw ti hC hW hw
 go_enter Tryz.func44,Tryz.ntmps44
 go_wp2_with (with_reducible refine zb 18 rfl (by kernel_rfl) 47 (.tmp 3) rfl g 0 rfl M0 _ (ST.out _ _ H1.out (by simp)).1 Tryz.underlying47 rfl I0.out ?_)
 go_at_call 76;refine(KH.out _ _ (fun p hp=>by have:=HL.out p hp;simp[this]) H1.out).mono ?_;rintro e wh ⟨rfl,hh⟩;have HH:=za hh;clear hh H1
 go_wp2_with (with_reducible refine zb 28 rfl (by kernel_rfl) 29 (.tmp 27) rfl g 0 rfl C _ (ST.out _ _ HH.out (by simp)).2.2.1 Tryz.underlying29 rfl TI.out ?_)
 go_at_call 77;refine(KW.out _ _ HH.out).mono ?_;rintro e ww ⟨A1,c1,L1,rfl,hr1,hw1⟩;have hw2:=hw1.perm (L':=(g+2,.cells Tryz.zeroCells52 52 (0,0))::(g+1,.cells Tryz.zeroCells47 47 (0,0))::(g,.cells M0 47 (0,0))::(L1++F)) ze;have HW:=za hw2;clear hw1 hw2 HH;go_wp2_with fail;have h5:=(HW.out.drew1).perm (L':=(g+1,.cells Tryz.zeroCells47 47 (0,0))::(g+2,.cells Tryz.zeroCells52 52 (0,0))::(g,.cells M0 47 (0,0))::(L1++F)) ze;have HDW:=za h5;clear h5;have HUS:=za Tryz.underlying47;have s1:=(ST.out _ _ HDW.out (by simp)).1;refine wp_region_held_drew (S:=fun v=>v.rangeAt g 0 M0.toList) (by kernel_rfl) s1 (fun hHeld=>?_)
 refine tk op0 (v:=?_) (by kernel_rfl) ?_ (by assumption) ?_ fun _ _ _ h=>h
 rotate_left
 ·(((refine yieldsIf_load_mid ?_ 47 (.tmp 3) ?_ (g) 0 ?_ M0.toList _ ?_ HUS.out ?_ I0.out)<;>first|rfl|exact fun w h=>h))
 try simp only[Act.put,pu1,pu2,pu3]
 refine tk op1 (v:=?_) (by kernel_rfl) ?_ (by assumption) ?_ fun _ _ _ h=>h
 rotate_left
 ·(refine ya rfl fun w hSw=>?_;go_simp;rfl)
 try simp only[Act.put,pu1,pu2,pu3]
 refine tk op3 (v:=?_) (by kernel_rfl) ?_ (by assumption) ?_ fun _ _ _ h=>h
 rotate_left
 ·(refine ya rfl fun w hSw=>?_;go_simp;rfl)
 try simp only[Act.put,pu1,pu2,pu3]
 refine tk op4 (v:=?_) (by kernel_rfl) ?_ (by assumption) ?_ fun _ _ _ h=>h
 rotate_left
 ·(refine ya rfl fun w hSw=>?_;go_simp;rfl)
 try simp only[Act.put,pu1,pu2,pu3]
 refine rd1 op2 (by kernel_rfl) fun K hK=>?_
 go_simp
 ((go_at_call 45;(with_reducible refine(KF.out _ _ HDW.out).mono ?_);rintro e wx ⟨rfl,hx⟩;dsimp only))
 refine hK.out _ _ ?_ fun hHeld=>?_
 ·(try dsimp only)<;>((exact(ST.out _ _ hx (by simp)).1))
 clear hK K
 try simp only[Act.put,pu1,pu2,pu3]
 refine rd1 op5 (by kernel_rfl) fun K hK=>?_
 ((refine zq rfl 47 (.tmp 6) (.tmp 34) rfl (g:=g+1) (off:=0) M0 rfl rfl hx SF.out I0.out O0.out ?_;intro wa ha;rw[SM.out]at ha;dsimp only))
 refine hK.out _ _ ?_ fun hHeld=>?_
 ·(try dsimp only)<;>((exact(ST.out _ _ ha (by simp)).1))
 clear hK K
 try simp only[Act.put,pu1,pu2,pu3]
 refine rd1 op6 (by kernel_rfl) fun K hK=>?_
 ((refine zq rfl 52 (.tmp 7) (.tmp 36) rfl (g:=g+2) (off:=0) R rfl rfl (ha.perm (L':=(g+2,.cells Tryz.zeroCells52 52 (0,0))::(g+1,.cells M0 47 (0,0))::(g,.cells M0 47 (0,0))::(L1++F)) ze) RF.out RAI.out RAO.out ?_;intro wf hf;rw[RM.out]at hf;dsimp only))
 refine hK.out _ _ ?_ fun hHeld=>?_
 ·(try dsimp only)<;>((exact(ST.out _ _ hf (by simp)).1))
 clear hK K
 try simp only[Act.put,pu1,pu2,pu3]
 refine tk op7 (v:=?_) (by kernel_rfl) ?_ (by assumption) ?_ fun _ _ _ h=>h
 rotate_left
 ·(refine ya rfl fun w hSw=>?_;go_simp;rfl)
 try simp only[Act.put,pu1,pu2,pu3]
 refine wpAnyH_done (by kernel_rfl) ?_ _;have HZ:=za hf;clear hf ha hx HDW s1;go_wp2_with fail;refine bodyPost_ret (yq rfl _ _ (g+1) (g+2) 47 52 M0 R (0,0) (0,0) _ _ _ rfl rfl rfl (HZ.out.own (g+1,.cells M0 47 (0,0)) (by simp)) (HZ.out.own (g+2,.cells R 52 (0,0)) (by simp)) Tryz.underlying47 (by kernel_rfl) I0.out Tryz.underlying52 (by kernel_rfl) RAI.out) rfl ?_;refine⟨rfl,St.weaken (A:=(g+2,.cells R 52 (0,0))::(g+1,.cells M0 47 (0,0))::(g,.cells M0 47 (0,0))::L1) (by simpa using HZ.out)⟩
end
end Go.Proofs.YtnjnooeldkideaaGreatDoor
