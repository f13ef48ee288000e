/- order: the document's Do. -/
import Derived.Test.YtnjnooeldkideaaGreatDoorRfF
namespace Go.Proofs.YtnjnooeldkideaaGreatDoor
set_option maxRecDepth 100000
set_option maxHeartbeats 8000000
set_option linter.unusedVariables false
set_option linter.unusedSimpArgs false
open Go.RowKit Go.Lib Go.Deep
section
variable {W w:World} {J:Nat→Option Obj} {t:Tb} {F:List (Nat × Obj)}
variable {m:Md} {nv:Value} {ns:List ByteArray} {Ln:List (Nat × Obj)}
theorem closeM_ok {e:En} (ok:m.Ok) (eok:e.Ok):(yr m e).Ok:=⟨ok.known,ok.t0,ok.t1,ql ok.job.n0 ok.job.n1 eok.t0 eok.t1 eok.f0 eok.f1 ok.job.l0 ok.job.l1 ok.job.f0 ok.job.f1,ok.b0,ok.b1⟩
theorem endD_ok {e:En} (ok:m.Ok) (eok:e.Ok):(endD m e).1.Ok:=by
 have nok:=closeM_ok ok eok;unfold endD
 split
 ·exact ok
 ·split
  ·exact nok
  ·split
   ·exact ok
   ·exact⟨qa ok.known (zaf m.job.slot e.slot eok.slot ok.job.l0 ok.job.l1).1,nok.2,nok.3,nok.4,nok.5,nok.6⟩
theorem qf {x store:Int} (ok:m.Ok) (h0:-9223372036854775808≤x) (h1:x≤9223372036854775807):(failD m x store).1.Ok∧(failD m x store).2.1.Ok:=⟨ok,jx x h0 h1⟩
theorem zat {m':Md} {cs:List Cg} {r:Ry} {store:Int} (ok:m.Ok) (ok':m'.Ok) (hf:∀c∈cs,FormC c) (rk:r.Ok) (h0:-9223372036854775808≤store) (h1:store≤9223372036854775807):(keepD m m' cs r store).1.Ok∧(keepD m m' cs r store).2.1.Ok:=by
 refine⟨(u2 ok ok' hf rk.t).1,?_⟩;unfold keepD keepM
 split
 ·exact rk
 ·exact jx store h0 h1
theorem wipeT_err (t:Tb):(wipeT t).2=0∨(wipeT t).2=101:=by
 unfold wipeT
 split
 ·exact .inr rfl
 ·exact .inl rfl
theorem zbb {q:Cl} {store:Int} (ok:m.Ok) (b0:0≤m.began) (b1:m.began≤1000000) (qok:q.Ok) (h0:-9223372036854775808≤store) (h1:store≤9223372036854775807):(callD m ns q store).1.Ok∧(callD m ns q store).2.1.Ok:=by
 have z:=jx 0 (by decide) (by decide);unfold callD
 split
 ·exact⟨ok,z⟩
 split
 ·unfold instD
  split
  ·exact qf ok (by decide) (by decide)
  split
  ·exact qf ok (by decide) (by decide)
  split
  ·rcases wipeT_err m.known with h|h<;>rw[h]<;>exact qf ok (by decide) (by decide)
  ·exact zat ok (nextI_ok ok b0 b1) (zad ok.known).1 (ui (by decide) (by decide) (by omega) (by omega) (by decide) (by decide) (by decide) (by decide) (by decide) (by decide) zt) h0 h1
 split
 ·split
  ·exact qf ok (by decide) (by decide)
  ·exact⟨⟨ok.known,ok.t0,ok.t1,ql ok.job.n0 ok.job.n1 (by decide) (by decide) ok.job.e0 ok.job.e1 ok.job.l0 ok.job.l1 ok.job.f0 ok.job.f1,ok.b0,ok.b1⟩,z⟩
 split
 ·exact⟨ok,ui (by decide) (by decide) ok.job.n0 ok.job.n1 ok.job.t0 ok.job.t1 (by decide) (by decide) ok.job.e0 ok.job.e1 ok.known⟩
 split
 ·split
  ·rcases goodT_err m.known q.slot with h|h<;>rw[h]<;>exact qf ok (by decide) (by decide)
  ·exact zat ok ok (ux ok.known q.slot qok.s0 qok.s1).1 z h0 h1
 split
 ·split
  ·exact qf ok (by decide) (by decide)
  split
  ·rcases badT_err m.known q.slot with h|h|h<;>rw[h]<;>exact qf ok (by decide) (by decide)
  ·exact zat ok ok (zae ok.known q.slot qok.s0 qok.s1).1 z h0 h1
 split
 ·exact qf ok (by decide) (by decide)
 split
 ·exact qf ok (by decide) (by decide)
 ·have p:=u5 m.known
  exact zat ok (rebD_ok ok) (uw ok.known).1 (ui (by decide) (by decide) (by decide) (by decide) (by decide) (by decide) (by omega) (by omega) (by decide) (by decide) zt) h0 h1
def doD (m:Md) (ns:List ByteArray) (e:En):Md × Bool:=
 if e.kind=2 then (if (endD m e).2=true then ((endD m e).1,true) else (m,false))
 else if (e.kind != 1||(e.state != 0||(e.fault != 0||!eqS e.slot zS)))=true then (m,false)
 else if (!(callD m ns e.call e.store).2.2||!eqRy (callD m ns e.call e.store).2.1 e.rep)=true then (m,false) else ((callD m ns e.call e.store).1,true)
theorem rfd_two_no {A:Option Addr} (tb:Go.Proofs.YtnjnooeldkideaaGreatDoor.TB W J) (e:En) (eok:e.Ok) (hqs:e.call.name.size≤1000000) (c:Nat) (ok:m.Ok) (b0:0≤m.began) (b1:m.began≤1000000) (hrd:Rd W J Ln 1 A (y2 ns)) (hn:ns.length≤1000) (hsz:∀s∈ns,s.size≤1000000) (hL:∀p∈Ln,p∈F) (h:St W w J F) (h2:e.kind=2) (hb:(endD m e).2=false):Calls Tryz.prog 16 #[.agg (stC m (.slice A ns.length c)),e.val] w (EPost W J F (.slice A ns.length c) (m,false)):=by
 unfold EPost;dsimp only;have h1:=((h.alloc (.cells (stC m (.slice A ns.length c)) 47)).alloc (.cells e.cells 54)).alloc (.cells Tryz.zeroCells47 47);obtain⟨g,hg⟩:∃g,w.heap.size=g:=⟨_,rfl⟩;simp only[World.size_alloc,hg,Nat.add_assoc,Nat.reduceAdd]at h1;have s0:=zy (nv:=(.slice A ns.length c)) ok;have i0:=zz (nv:=(.slice A ns.length c)) ok;have o0:=ye (m:=m) (nv:=(.slice A ns.length c)) rfl
 have st:=fun(v:World) (X:List (Nat × Obj)) (hv:St W v J X) (hm:(g,Obj.cells (stC m (.slice A ns.length c)) 47 (0,0))∈X)=>(hv.whole hm:v.rangeAt g 0 (stC m (.slice A ns.length c)).toList)
 have fe:=fun(v:World) (X:List (Nat × Obj)) (hv:St W v J X) (hm:(g+1,Obj.cells e.cells 54 (0,0))∈X)=>(⟨(hv.en eok hm).kind,(hv.en eok hm).state,(hv.en eok hm).fault,(hv.en eok hm).store,(hv.en eok hm).slot,(hv.en eok hm).call,(hv.en eok hm).rep,(hv.en eok hm).all⟩:v.cell? ⟨g+1,0,none⟩=some (.int .i64 e.kind)∧v.cell? ⟨g+1,88,none⟩=some (.int .i64 e.state)∧v.cell? ⟨g+1,89,none⟩=some (.int .i64 e.fault)∧v.cell? ⟨g+1,87,none⟩=some (.int .i64 e.store)∧v.rangeAt (g+1) 90 e.slot.cells.toList∧v.rangeAt (g+1) 2 e.call.cells.toList∧v.rangeAt (g+1) 7 e.rep.cells.toList∧v.rangeAt (g+1) 0 e.cells.toList)
 have ei:=qk eok
 have ke:=fun(v:World) (X:List (Nat × Obj)) (hv:St W v J X)=>r26_end (nv:=(.slice A ns.length c)) rfl ok e eok hv
 have pok:=endD_ok ok eok;obtain⟨⟨p1,p2⟩,hP⟩:∃z,endD m e=z:=⟨_,rfl⟩;rw[hP]at ke pok hb;unfold EPost at ke;dsimp only at ke pok hb;subst hb;have s8:=zy (nv:=(.slice A ns.length c)) pok;have i8:=zz (nv:=(.slice A ns.length c)) pok;have o8:=ye (m:=p1) (nv:=(.slice A ns.length c)) rfl;unfold En.val at *;obtain⟨ki,hki⟩:∃z,e.kind=z:=⟨_,rfl⟩;obtain⟨sta,hsta⟩:∃z,e.state=z:=⟨_,rfl⟩;obtain⟨flt,hflt⟩:∃z,e.fault=z:=⟨_,rfl⟩;obtain⟨sto,hsto⟩:∃z,e.store=z:=⟨_,rfl⟩;obtain⟨SX,hSX⟩:∃z,e.slot.cells=z:=⟨_,rfl⟩;obtain⟨CX,hCX⟩:∃z,e.call.cells=z:=⟨_,rfl⟩;obtain⟨RX,hRX⟩:∃z,e.rep.cells=z:=⟨_,rfl⟩;obtain⟨EX,hEX⟩:∃z,e.cells=z:=⟨_,rfl⟩;obtain⟨M0,hM0⟩:∃z,stC m (.slice A ns.length c)=z:=⟨_,rfl⟩;rw[hki,hsta,hflt,hsto,hSX,hCX,hRX,hEX]at fe;rw[hM0,hEX]at h1;rw[hEX]at ei ⊢;rw[hM0]at s0 i0 o0 st ⊢;obtain⟨M8,hM8⟩:∃z,stC p1 (.slice A ns.length c)=z:=⟨_,rfl⟩;rw[hki]at h2;subst h2;rw[hM0,hEX]at ke;rw[hM8]at ke s8 i8 o8
 have e8:=fun(v:World) (X:List (Nat × Obj)) (b:Nat) (hv:St W v J X) (hm:(b,Obj.cells M8 47 (0,0))∈X)=>(hv.whole hm:v.rangeAt b 0 M8.toList)
 have KE:=za ke;have I8:=za i8;have O8:=za o8;have E8:=za e8
 have sfit0:0+M0.size≤Tryz.zeroCells47.size:=by rw[s0,zst];omega
 have smany0:zg Tryz.zeroCells47 0 M0.toList=M0:=by rw[zd _ _ (by rw[Array.length_toList,s0,zst]),Array.toArray_toList]
 have SF0:=za sfit0;have SM0:=za smany0;clear sfit0 smany0
 have sfit8:0+M8.size≤Tryz.zeroCells47.size:=by rw[s8,zst];omega
 have smany8:zg Tryz.zeroCells47 0 M8.toList=M8:=by rw[zd _ _ (by rw[Array.length_toList,s8,zst]),Array.toArray_toList]
 have SF8:=za sfit8;have SM8:=za smany8;clear sfit8 smany8;have H1:=za h1;have ST:=za st;have FE:=za fe;have I0:=za i0;have O0:=za o0;have EI:=za ei;have HL:=za hL;clear h1 st fe i0 o0 ei hL h s0 hM0 hEX hSX hCX hRX hki hsta hflt hsto tb eok hqs ok b0 b1 hrd hn hsz ke i8 o8 e8 s8 hM8 hP pok
 go_enter Tryz.func16,Tryz.ntmps16
 obtain⟨c0,c88,c89,c87,-,-,-,-⟩:=FE.out _ _ H1.out (by simp)
 go_wp2_with (first|(with_reducible refine zb 15 rfl (by kernel_rfl) 47 (.tmp 2) rfl g 0 rfl M0 _ (ST.out _ _ H1.out (by simp)) Tryz.underlying47 rfl I0.out ?_)|(with_reducible refine zb 16 rfl (by kernel_rfl) 54 (.tmp 3) rfl (g+1) 0 rfl EX _ (FE.out _ _ H1.out (by simp)).2.2.2.2.2.2.2 Tryz.underlying54 rfl EI.out ?_))
 go_at_call 35;refine(KE.out _ _ H1.out).mono ?_;rintro e2 we ⟨rfl,he⟩;have hn:=he.alloc (.cells Tryz.zeroCells47 47);have HN:=za hn;clear he hn H1 c0 c88 c89 c87
 go_wp2_with (with_reducible refine zc rfl 47 (.tmp 6) (.tmp 18) rfl (g:=we.heap.size) (off:=0) M8 rfl rfl HN.out SF8.out I8.out O8.out ?_;intro w3 h3;refine Hid.out ?_)
 refine za ?_;rw[SM8.out]at h3;obtain⟨gx,hgx⟩:∃y,we.heap.size=y:=⟨_,rfl⟩;rw[hgx]at h3 ⊢;have h4:=h3.perm (L':=(g+2,.cells Tryz.zeroCells47 47 (0,0))::(gx,.cells M8 47 (0,0))::(g+1,.cells EX 54 (0,0))::(g,.cells M0 47 (0,0))::F) ze;have H3:=za h4;clear h3 h4 HN hgx
 go_wp2_with (first|(with_reducible refine zb 22 rfl (by kernel_rfl) 47 (.tmp 2) rfl g 0 rfl M0 _ (ST.out _ _ H3.out (by simp)) Tryz.underlying47 rfl I0.out ?_)|(with_reducible refine zc rfl 47 (.tmp 4) (.tmp 22) rfl (g:=g+2) (off:=0) M0 rfl rfl H3.out SF0.out I0.out O0.out ?_;intro w6 h6;refine Hid.out ?_))
 refine za ?_;rw[SM0.out]at h6;have HZ:=za h6;clear h6 H3;go_wp2_with fail;refine bodyPost_ret (zr rfl _ _ (g+2) 47 M0 (0,0) _ _ rfl rfl (HZ.out.own (g+2,.cells M0 47 (0,0)) (by simp)) Tryz.underlying47 (by kernel_rfl) I0.out) rfl ?_;exact⟨rfl,HZ.out.weaken (A:=[_,_,_,_])⟩
theorem rfd_two {A:Option Addr} (tb:Go.Proofs.YtnjnooeldkideaaGreatDoor.TB W J) (e:En) (eok:e.Ok) (hqs:e.call.name.size≤1000000) (c:Nat) (ok:m.Ok) (b0:0≤m.began) (b1:m.began≤1000000) (hrd:Rd W J Ln 1 A (y2 ns)) (hn:ns.length≤1000) (hsz:∀s∈ns,s.size≤1000000) (hL:∀p∈Ln,p∈F) (h:St W w J F) (h2:e.kind=2) (hb:(endD m e).2=true):Calls Tryz.prog 16 #[.agg (stC m (.slice A ns.length c)),e.val] w (EPost W J F (.slice A ns.length c) ((endD m e).1,true)):=by
 unfold EPost;dsimp only;have h1:=((h.alloc (.cells (stC m (.slice A ns.length c)) 47)).alloc (.cells e.cells 54)).alloc (.cells Tryz.zeroCells47 47);obtain⟨g,hg⟩:∃g,w.heap.size=g:=⟨_,rfl⟩;simp only[World.size_alloc,hg,Nat.add_assoc,Nat.reduceAdd]at h1;have s0:=zy (nv:=(.slice A ns.length c)) ok;have i0:=zz (nv:=(.slice A ns.length c)) ok;have o0:=ye (m:=m) (nv:=(.slice A ns.length c)) rfl
 have st:=fun(v:World) (X:List (Nat × Obj)) (hv:St W v J X) (hm:(g,Obj.cells (stC m (.slice A ns.length c)) 47 (0,0))∈X)=>(hv.whole hm:v.rangeAt g 0 (stC m (.slice A ns.length c)).toList)
 have fe:=fun(v:World) (X:List (Nat × Obj)) (hv:St W v J X) (hm:(g+1,Obj.cells e.cells 54 (0,0))∈X)=>(⟨(hv.en eok hm).kind,(hv.en eok hm).state,(hv.en eok hm).fault,(hv.en eok hm).store,(hv.en eok hm).slot,(hv.en eok hm).call,(hv.en eok hm).rep,(hv.en eok hm).all⟩:v.cell? ⟨g+1,0,none⟩=some (.int .i64 e.kind)∧v.cell? ⟨g+1,88,none⟩=some (.int .i64 e.state)∧v.cell? ⟨g+1,89,none⟩=some (.int .i64 e.fault)∧v.cell? ⟨g+1,87,none⟩=some (.int .i64 e.store)∧v.rangeAt (g+1) 90 e.slot.cells.toList∧v.rangeAt (g+1) 2 e.call.cells.toList∧v.rangeAt (g+1) 7 e.rep.cells.toList∧v.rangeAt (g+1) 0 e.cells.toList)
 have ei:=qk eok
 have ke:=fun(v:World) (X:List (Nat × Obj)) (hv:St W v J X)=>r26_end (nv:=(.slice A ns.length c)) rfl ok e eok hv
 have pok:=endD_ok ok eok;obtain⟨⟨p1,p2⟩,hP⟩:∃z,endD m e=z:=⟨_,rfl⟩;rw[hP]at ke pok hb ⊢;unfold EPost at ke;dsimp only at ke pok hb ⊢;subst hb;have s8:=zy (nv:=(.slice A ns.length c)) pok;have i8:=zz (nv:=(.slice A ns.length c)) pok;have o8:=ye (m:=p1) (nv:=(.slice A ns.length c)) rfl;unfold En.val at *;obtain⟨ki,hki⟩:∃z,e.kind=z:=⟨_,rfl⟩;obtain⟨sta,hsta⟩:∃z,e.state=z:=⟨_,rfl⟩;obtain⟨flt,hflt⟩:∃z,e.fault=z:=⟨_,rfl⟩;obtain⟨sto,hsto⟩:∃z,e.store=z:=⟨_,rfl⟩;obtain⟨SX,hSX⟩:∃z,e.slot.cells=z:=⟨_,rfl⟩;obtain⟨CX,hCX⟩:∃z,e.call.cells=z:=⟨_,rfl⟩;obtain⟨RX,hRX⟩:∃z,e.rep.cells=z:=⟨_,rfl⟩;obtain⟨EX,hEX⟩:∃z,e.cells=z:=⟨_,rfl⟩;obtain⟨M0,hM0⟩:∃z,stC m (.slice A ns.length c)=z:=⟨_,rfl⟩;rw[hki,hsta,hflt,hsto,hSX,hCX,hRX,hEX]at fe;rw[hM0,hEX]at h1;rw[hEX]at ei ⊢;rw[hM0]at s0 i0 o0 st ⊢;obtain⟨M8,hM8⟩:∃z,stC p1 (.slice A ns.length c)=z:=⟨_,rfl⟩;rw[hki]at h2;subst h2;rw[hM0,hEX]at ke;rw[hM8]at ke s8 i8 o8 ⊢
 have e8:=fun(v:World) (X:List (Nat × Obj)) (b:Nat) (hv:St W v J X) (hm:(b,Obj.cells M8 47 (0,0))∈X)=>(hv.whole hm:v.rangeAt b 0 M8.toList)
 have KE:=za ke;have I8:=za i8;have O8:=za o8;have E8:=za e8
 have sfit0:0+M0.size≤Tryz.zeroCells47.size:=by rw[s0,zst];omega
 have smany0:zg Tryz.zeroCells47 0 M0.toList=M0:=by rw[zd _ _ (by rw[Array.length_toList,s0,zst]),Array.toArray_toList]
 have SF0:=za sfit0;have SM0:=za smany0;clear sfit0 smany0
 have sfit8:0+M8.size≤Tryz.zeroCells47.size:=by rw[s8,zst];omega
 have smany8:zg Tryz.zeroCells47 0 M8.toList=M8:=by rw[zd _ _ (by rw[Array.length_toList,s8,zst]),Array.toArray_toList]
 have SF8:=za sfit8;have SM8:=za smany8;clear sfit8 smany8;have H1:=za h1;have ST:=za st;have FE:=za fe;have I0:=za i0;have O0:=za o0;have EI:=za ei;have HL:=za hL;clear h1 st fe i0 o0 ei hL h s0 hM0 hEX hSX hCX hRX hki hsta hflt hsto tb eok hqs ok b0 b1 hrd hn hsz ke i8 o8 e8 s8 hM8 hP pok
 go_enter Tryz.func16,Tryz.ntmps16
 obtain⟨c0,c88,c89,c87,-,-,-,-⟩:=FE.out _ _ H1.out (by simp)
 go_wp2_with (first|(with_reducible refine zb 15 rfl (by kernel_rfl) 47 (.tmp 2) rfl g 0 rfl M0 _ (ST.out _ _ H1.out (by simp)) Tryz.underlying47 rfl I0.out ?_)|(with_reducible refine zb 16 rfl (by kernel_rfl) 54 (.tmp 3) rfl (g+1) 0 rfl EX _ (FE.out _ _ H1.out (by simp)).2.2.2.2.2.2.2 Tryz.underlying54 rfl EI.out ?_))
 go_at_call 35;refine(KE.out _ _ H1.out).mono ?_;rintro e2 we ⟨rfl,he⟩;have hn:=he.alloc (.cells Tryz.zeroCells47 47);have HN:=za hn;clear he hn H1 c0 c88 c89 c87
 go_wp2_with (with_reducible refine zc rfl 47 (.tmp 6) (.tmp 18) rfl (g:=we.heap.size) (off:=0) M8 rfl rfl HN.out SF8.out I8.out O8.out ?_;intro w3 h3;refine Hid.out ?_)
 refine za ?_;rw[SM8.out]at h3;obtain⟨gx,hgx⟩:∃y,we.heap.size=y:=⟨_,rfl⟩;rw[hgx]at h3 ⊢;have h4:=h3.perm (L':=(g+2,.cells Tryz.zeroCells47 47 (0,0))::(gx,.cells M8 47 (0,0))::(g+1,.cells EX 54 (0,0))::(g,.cells M0 47 (0,0))::F) ze;have H3:=za h4;clear h3 h4 HN hgx
 go_wp2_with (first|(with_reducible refine zb 23 rfl (by kernel_rfl) 47 (.tmp 6) rfl gx 0 rfl M8 _ (E8.out _ _ gx H3.out (by simp)) Tryz.underlying47 rfl I8.out ?_)|(with_reducible refine zc rfl 47 (.tmp 4) (.tmp 23) rfl (g:=g+2) (off:=0) M8 rfl rfl H3.out SF8.out I8.out O8.out ?_;intro w6 h6;refine Hid.out ?_))
 refine za ?_;rw[SM8.out]at h6;have HZ:=za h6;clear h6 H3;go_wp2_with fail;refine bodyPost_ret (zr rfl _ _ (g+2) 47 M8 (0,0) _ _ rfl rfl (HZ.out.own (g+2,.cells M8 47 (0,0)) (by simp)) Tryz.underlying47 (by kernel_rfl) I8.out) rfl ?_;exact⟨rfl,HZ.out.weaken (A:=[_,_,_,_])⟩
theorem rfd_not {A:Option Addr} (tb:Go.Proofs.YtnjnooeldkideaaGreatDoor.TB W J) (e:En) (eok:e.Ok) (hqs:e.call.name.size≤1000000) (c:Nat) (ok:m.Ok) (b0:0≤m.began) (b1:m.began≤1000000) (hrd:Rd W J Ln 1 A (y2 ns)) (hn:ns.length≤1000) (hsz:∀s∈ns,s.size≤1000000) (hL:∀p∈Ln,p∈F) (h:St W w J F) (h2:e.kind≠2) (hc:(e.kind != 1||(e.state != 0||(e.fault != 0||!eqS e.slot zS)))=true):Calls Tryz.prog 16 #[.agg (stC m (.slice A ns.length c)),e.val] w (EPost W J F (.slice A ns.length c) (m,false)):=by
 unfold EPost;dsimp only;have h1:=((h.alloc (.cells (stC m (.slice A ns.length c)) 47)).alloc (.cells e.cells 54)).alloc (.cells Tryz.zeroCells47 47);obtain⟨g,hg⟩:∃g,w.heap.size=g:=⟨_,rfl⟩;simp only[World.size_alloc,hg,Nat.add_assoc,Nat.reduceAdd]at h1;have s0:=zy (nv:=(.slice A ns.length c)) ok;have i0:=zz (nv:=(.slice A ns.length c)) ok;have o0:=ye (m:=m) (nv:=(.slice A ns.length c)) rfl
 have st:=fun(v:World) (X:List (Nat × Obj)) (hv:St W v J X) (hm:(g,Obj.cells (stC m (.slice A ns.length c)) 47 (0,0))∈X)=>(hv.whole hm:v.rangeAt g 0 (stC m (.slice A ns.length c)).toList)
 have fe:=fun(v:World) (X:List (Nat × Obj)) (hv:St W v J X) (hm:(g+1,Obj.cells e.cells 54 (0,0))∈X)=>(⟨(hv.en eok hm).kind,(hv.en eok hm).state,(hv.en eok hm).fault,(hv.en eok hm).store,(hv.en eok hm).slot,(hv.en eok hm).call,(hv.en eok hm).rep,(hv.en eok hm).all⟩:v.cell? ⟨g+1,0,none⟩=some (.int .i64 e.kind)∧v.cell? ⟨g+1,88,none⟩=some (.int .i64 e.state)∧v.cell? ⟨g+1,89,none⟩=some (.int .i64 e.fault)∧v.cell? ⟨g+1,87,none⟩=some (.int .i64 e.store)∧v.rangeAt (g+1) 90 e.slot.cells.toList∧v.rangeAt (g+1) 2 e.call.cells.toList∧v.rangeAt (g+1) 7 e.rep.cells.toList∧v.rangeAt (g+1) 0 e.cells.toList)
 have ei:=qk eok;have heqs:=uh e.slot zS eok.slot zS_ok;have bzs:=jr;have si:=yg eok.slot;obtain⟨qs,hqz⟩:∃b,eqS e.slot zS=b:=⟨_,rfl⟩;rw[hqz]at heqs;obtain⟨ZS0,hZS⟩:∃z,zS.cells=z:=⟨_,rfl⟩;rw[hZS]at heqs bzs;unfold En.val at *;obtain⟨ki,hki⟩:∃z,e.kind=z:=⟨_,rfl⟩;obtain⟨sta,hsta⟩:∃z,e.state=z:=⟨_,rfl⟩;obtain⟨flt,hflt⟩:∃z,e.fault=z:=⟨_,rfl⟩;obtain⟨sto,hsto⟩:∃z,e.store=z:=⟨_,rfl⟩;obtain⟨SX,hSX⟩:∃z,e.slot.cells=z:=⟨_,rfl⟩;obtain⟨CX,hCX⟩:∃z,e.call.cells=z:=⟨_,rfl⟩;obtain⟨RX,hRX⟩:∃z,e.rep.cells=z:=⟨_,rfl⟩;obtain⟨EX,hEX⟩:∃z,e.cells=z:=⟨_,rfl⟩;obtain⟨M0,hM0⟩:∃z,stC m (.slice A ns.length c)=z:=⟨_,rfl⟩;rw[hki,hsta,hflt,hsto,hSX,hCX,hRX,hEX]at fe;rw[hM0,hEX]at h1;rw[hEX]at ei ⊢;rw[hM0]at s0 i0 o0 st ⊢;rw[hSX]at heqs si;rw[hki,hsta,hflt,hqz]at hc;obtain⟨q1,hq1⟩:∃b,(ki != 1)=b:=⟨_,rfl⟩;obtain⟨q2,hq2⟩:∃b,(sta != 0)=b:=⟨_,rfl⟩;obtain⟨q3,hq3⟩:∃b,(flt != 0)=b:=⟨_,rfl⟩
 have hk2:(ki==2)=false:=by rw[←hki];simpa using h2
 have hd:q1=true∨(q1=false∧q2=true)∨(q1=false∧q2=false∧q3=true)∨(q1=false∧q2=false∧q3=false∧qs=false):=by
  rw[hq1,hq2,hq3]at hc
  revert hc
  cases q1<;>cases q2<;>cases q3<;>cases qs<;>simp
 have SI:=za si;have BZS:=za bzs
 have sfit0:0+M0.size≤Tryz.zeroCells47.size:=by rw[s0,zst];omega
 have smany0:zg Tryz.zeroCells47 0 M0.toList=M0:=by rw[zd _ _ (by rw[Array.length_toList,s0,zst]),Array.toArray_toList]
 have SF0:=za sfit0;have SM0:=za smany0;clear sfit0 smany0;have H1:=za h1;have ST:=za st;have FE:=za fe;have I0:=za i0;have O0:=za o0;have EI:=za ei;have HL:=za hL;clear h1 st fe i0 o0 ei hL h s0 hM0 hEX hSX hCX hRX hki hsta hflt hsto tb eok hqs ok b0 b1 hrd hn hsz si bzs hqz hZS hc h2
 rcases hd with rfl|⟨rfl,rfl⟩|⟨rfl,rfl,rfl⟩|⟨rfl,rfl,rfl,rfl⟩
 all_goals
  go_enter Tryz.func16,Tryz.ntmps16
  obtain⟨c0,c88,c89,c87,-,-,-,-⟩:=FE.out _ _ H1.out (by simp)
  go_wp2_with (first|(with_reducible refine zb 39 rfl (by kernel_rfl) 26 (.tmp 38) rfl (g+1) 90 rfl SX _ (FE.out _ _ H1.out (by simp)).2.2.2.2.1 Tryz.underlying26 rfl SI.out ?_)|(with_reducible refine yt 40 rfl (by kernel_rfl) 26 _ rfl _ ?_ (BZS.out _) ?_;·go_simp)|(with_reducible refine zb 43 rfl (by kernel_rfl) 47 (.tmp 2) rfl g 0 rfl M0 _ (ST.out _ _ H1.out (by simp)) Tryz.underlying47 rfl I0.out ?_)|(with_reducible refine zc rfl 47 (.tmp 4) (.tmp 43) rfl (g:=g+2) (off:=0) M0 rfl rfl H1.out SF0.out I0.out O0.out ?_;intro w6 h6;refine Hid.out ?_))
  refine za ?_;rw[SM0.out]at h6;have HZ:=za h6;clear h6 H1;go_wp2_with fail;refine bodyPost_ret (zr rfl _ _ (g+2) 47 M0 (0,0) _ _ rfl rfl (HZ.out.own (g+2,.cells M0 47 (0,0)) (by simp)) Tryz.underlying47 (by kernel_rfl) I0.out) rfl ?_;exact⟨rfl,HZ.out.weaken (A:=[_,_,_])⟩
theorem rfd_call_no {A:Option Addr} (tb:Go.Proofs.YtnjnooeldkideaaGreatDoor.TB W J) (e:En) (eok:e.Ok) (hqs:e.call.name.size≤1000000) (c:Nat) (ok:m.Ok) (b0:0≤m.began) (b1:m.began≤1000000) (hrd:Rd W J Ln 1 A (y2 ns)) (hn:ns.length≤1000) (hsz:∀s∈ns,s.size≤1000000) (hL:∀p∈Ln,p∈F) (h:St W w J F) (h2:e.kind≠2) (hc:(e.kind != 1||(e.state != 0||(e.fault != 0||!eqS e.slot zS)))=false) (hb:(!(callD m ns e.call e.store).2.2||!eqRy (callD m ns e.call e.store).2.1 e.rep)=true):Calls Tryz.prog 16 #[.agg (stC m (.slice A ns.length c)),e.val] w (EPost W J F (.slice A ns.length c) (m,false)):=by
 unfold EPost;dsimp only;have h1:=((h.alloc (.cells (stC m (.slice A ns.length c)) 47)).alloc (.cells e.cells 54)).alloc (.cells Tryz.zeroCells47 47);obtain⟨g,hg⟩:∃g,w.heap.size=g:=⟨_,rfl⟩;simp only[World.size_alloc,hg,Nat.add_assoc,Nat.reduceAdd]at h1;have s0:=zy (nv:=(.slice A ns.length c)) ok;have i0:=zz (nv:=(.slice A ns.length c)) ok;have o0:=ye (m:=m) (nv:=(.slice A ns.length c)) rfl
 have st:=fun(v:World) (X:List (Nat × Obj)) (hv:St W v J X) (hm:(g,Obj.cells (stC m (.slice A ns.length c)) 47 (0,0))∈X)=>(hv.whole hm:v.rangeAt g 0 (stC m (.slice A ns.length c)).toList)
 have fe:=fun(v:World) (X:List (Nat × Obj)) (hv:St W v J X) (hm:(g+1,Obj.cells e.cells 54 (0,0))∈X)=>(⟨(hv.en eok hm).kind,(hv.en eok hm).state,(hv.en eok hm).fault,(hv.en eok hm).store,(hv.en eok hm).slot,(hv.en eok hm).call,(hv.en eok hm).rep,(hv.en eok hm).all⟩:v.cell? ⟨g+1,0,none⟩=some (.int .i64 e.kind)∧v.cell? ⟨g+1,88,none⟩=some (.int .i64 e.state)∧v.cell? ⟨g+1,89,none⟩=some (.int .i64 e.fault)∧v.cell? ⟨g+1,87,none⟩=some (.int .i64 e.store)∧v.rangeAt (g+1) 90 e.slot.cells.toList∧v.rangeAt (g+1) 2 e.call.cells.toList∧v.rangeAt (g+1) 7 e.rep.cells.toList∧v.rangeAt (g+1) 0 e.cells.toList)
 have ei:=qk eok;have heqs:=uh e.slot zS eok.slot zS_ok;have bzs:=jr;have si:=yg eok.slot;obtain⟨qs,hqz⟩:∃b,eqS e.slot zS=b:=⟨_,rfl⟩;rw[hqz]at heqs;obtain⟨ZS0,hZS⟩:∃z,zS.cells=z:=⟨_,rfl⟩;rw[hZS]at heqs bzs
 have kc:=fun(v:World) (X:List (Nat × Obj)) (hp:∀p∈Ln,p∈X) (hv:St W v J X)=>zbq tb e.call eok.call hqs c ok b0 b1 hrd hn hsz hp e.store hv
 have pok:=zbb (ns:=ns) ok b0 b1 eok.call eok.o0 eok.o1;unfold DPost Cl.val at kc;obtain⟨⟨p1,p2,p3⟩,hP⟩:∃z,callD m ns e.call e.store=z:=⟨_,rfl⟩;rw[hP]at kc pok hb;dsimp only at kc pok hb;have s8:=zy (nv:=(.slice A ns.length c)) pok.1;have i8:=zz (nv:=(.slice A ns.length c)) pok.1;have o8:=ye (m:=p1) (nv:=(.slice A ns.length c)) rfl;have rs:=Ry.size pok.2.t;have ri:=yu pok.2.t;have ro:=Ry.one p2;have heqr:=qn p2 e.rep pok.2 eok.rep;have ix:=yu eok.rep.t;have ic:=ky e.call;obtain⟨qr,hqr⟩:∃b,eqRy p2 e.rep=b:=⟨_,rfl⟩;rw[hqr]at heqr hb;unfold En.val at *;obtain⟨ki,hki⟩:∃z,e.kind=z:=⟨_,rfl⟩;obtain⟨sta,hsta⟩:∃z,e.state=z:=⟨_,rfl⟩;obtain⟨flt,hflt⟩:∃z,e.fault=z:=⟨_,rfl⟩;obtain⟨sto,hsto⟩:∃z,e.store=z:=⟨_,rfl⟩;obtain⟨SX,hSX⟩:∃z,e.slot.cells=z:=⟨_,rfl⟩;obtain⟨CX,hCX⟩:∃z,e.call.cells=z:=⟨_,rfl⟩;obtain⟨RX,hRX⟩:∃z,e.rep.cells=z:=⟨_,rfl⟩;obtain⟨EX,hEX⟩:∃z,e.cells=z:=⟨_,rfl⟩;obtain⟨M0,hM0⟩:∃z,stC m (.slice A ns.length c)=z:=⟨_,rfl⟩;rw[hki,hsta,hflt,hsto,hSX,hCX,hRX,hEX]at fe;rw[hM0,hEX]at h1;rw[hEX]at ei ⊢;rw[hM0]at s0 i0 o0 st ⊢;obtain⟨M8,hM8⟩:∃z,stC p1 (.slice A ns.length c)=z:=⟨_,rfl⟩;obtain⟨R8,hR8⟩:∃z,p2.cells=z:=⟨_,rfl⟩;rw[hSX]at heqs si;rw[hki,hsta,hflt,hqz]at hc;rw[hM0,hCX,hsto]at kc;rw[hM8]at kc s8 i8 o8;rw[hR8]at kc rs ri ro heqr;rw[hRX]at heqr ix;rw[hCX]at ic
 have e8:=fun(v:World) (X:List (Nat × Obj)) (b:Nat) (hv:St W v J X) (hm:(b,Obj.cells M8 47 (0,0))∈X)=>(hv.whole hm:v.rangeAt b 0 M8.toList)
 have e9:=fun(v:World) (X:List (Nat × Obj)) (b:Nat) (hv:St W v J X) (hm:(b,Obj.cells R8 52 (0,0))∈X)=>(hv.whole hm:v.rangeAt b 0 R8.toList)
 have rfit:0+R8.size≤Tryz.zeroCells52.size:=by rw[rs,zry];omega
 have rmany:zg Tryz.zeroCells52 0 R8.toList=R8:=by rw[zd _ _ (by rw[Array.length_toList,rs,zry]),Array.toArray_toList]
 obtain⟨q1,hq1⟩:∃b,(ki != 1)=b:=⟨_,rfl⟩;obtain⟨q2,hq2⟩:∃b,(sta != 0)=b:=⟨_,rfl⟩;obtain⟨q3,hq3⟩:∃b,(flt != 0)=b:=⟨_,rfl⟩
 have hk2:(ki==2)=false:=by rw[←hki];simpa using h2
 have hd:q1=false∧q2=false∧q3=false∧qs=true:=by
  rw[hq1,hq2,hq3]at hc
  revert hc
  cases q1<;>cases q2<;>cases q3<;>cases qs<;>simp
 obtain⟨rfl,rfl,rfl,rfl⟩:=hd;have SI:=za si;have BZS:=za bzs;have KC:=za kc;have I8:=za i8;have O8:=za o8;have E8:=za e8;have RI:=za ri;have RO:=za ro;have RF:=za rfit;have RM:=za rmany;have E9:=za e9;have IXX:=za ix;have IC:=za ic;have HB:=za hb
 have sfit0:0+M0.size≤Tryz.zeroCells47.size:=by rw[s0,zst];omega
 have smany0:zg Tryz.zeroCells47 0 M0.toList=M0:=by rw[zd _ _ (by rw[Array.length_toList,s0,zst]),Array.toArray_toList]
 have SF0:=za sfit0;have SM0:=za smany0;clear sfit0 smany0
 have sfit8:0+M8.size≤Tryz.zeroCells47.size:=by rw[s8,zst];omega
 have smany8:zg Tryz.zeroCells47 0 M8.toList=M8:=by rw[zd _ _ (by rw[Array.length_toList,s8,zst]),Array.toArray_toList]
 have SF8:=za sfit8;have SM8:=za smany8;clear sfit8 smany8;have H1:=za h1;have ST:=za st;have FE:=za fe;have I0:=za i0;have O0:=za o0;have EI:=za ei;have HL:=za hL;clear h1 st fe i0 o0 ei hL h s0 hM0 hEX hSX hCX hRX hki hsta hflt hsto tb eok hqs ok b0 b1 hrd hn hsz si bzs hqz hZS hc h2 kc i8 o8 e8 ri ro rfit rmany e9 ix ic rs s8 hR8 hM8 hqr hP pok hb
 go_enter Tryz.func16,Tryz.ntmps16
 obtain⟨c0,c88,c89,c87,-,-,-,-⟩:=FE.out _ _ H1.out (by simp)
 go_wp2_with (first|(with_reducible refine zb 39 rfl (by kernel_rfl) 26 (.tmp 38) rfl (g+1) 90 rfl SX _ (FE.out _ _ H1.out (by simp)).2.2.2.2.1 Tryz.underlying26 rfl SI.out ?_)|(with_reducible refine yt 40 rfl (by kernel_rfl) 26 _ rfl _ ?_ (BZS.out _) ?_;·go_simp)|(with_reducible refine zb 45 rfl (by kernel_rfl) 47 (.tmp 2) rfl g 0 rfl M0 _ (ST.out _ _ H1.out (by simp)) Tryz.underlying47 rfl I0.out ?_)|(with_reducible refine zb 47 rfl (by kernel_rfl) 50 (.tmp 46) rfl (g+1) 2 rfl CX _ (FE.out _ _ H1.out (by simp)).2.2.2.2.2.1 Tryz.underlying50 rfl IC.out ?_))
 go_at_call 20;refine(KC.out _ _ (fun p hp=>by simp[HL.out p hp]) H1.out).mono ?_;rintro e2 we ⟨rfl,he⟩;have hn:=(he.alloc (.cells Tryz.zeroCells47 47)).alloc (.cells Tryz.zeroCells52 52);obtain⟨gx,hgx⟩:∃y,we.heap.size=y:=⟨_,rfl⟩;simp only[World.size_alloc,hgx,Nat.add_assoc,Nat.reduceAdd]at hn;have hn2:=hn.perm (L':=(gx,.cells Tryz.zeroCells47 47 (0,0))::(gx+1,.cells Tryz.zeroCells52 52 (0,0))::(g+2,.cells Tryz.zeroCells47 47 (0,0))::(g+1,.cells EX 54 (0,0))::(g,.cells M0 47 (0,0))::F) ze;have HN:=za hn2;clear he hn hn2 H1 c0 c88 c89 c87 heqs
 go_wp2_with (with_reducible refine zc rfl 47 (.tmp 8) (.tmp 51) rfl (g:=gx) (off:=0) M8 rfl rfl HN.out SF8.out I8.out O8.out ?_;intro w3 h3;refine Hid.out ?_)
 refine za ?_;rw[SM8.out]at h3;have h4:=h3.perm (L':=(gx+1,.cells Tryz.zeroCells52 52 (0,0))::(gx,.cells M8 47 (0,0))::(g+2,.cells Tryz.zeroCells47 47 (0,0))::(g+1,.cells EX 54 (0,0))::(g,.cells M0 47 (0,0))::F) ze;have H3:=za h4;clear h3 h4 HN hgx
 go_wp2_with (with_reducible refine zc rfl 52 (.tmp 9) (.tmp 52) rfl (g:=gx+1) (off:=0) R8 rfl rfl H3.out RF.out RI.out RO.out ?_;intro w3 h3;refine Hid.out ?_)
 refine za ?_;rw[RM.out]at h3;have h4:=h3.perm (L':=(g+2,.cells Tryz.zeroCells47 47 (0,0))::(gx+1,.cells R8 52 (0,0))::(gx,.cells M8 47 (0,0))::(g+1,.cells EX 54 (0,0))::(g,.cells M0 47 (0,0))::F) ze;have H4:=za h4;clear h3 h4 H3
 have hd:p3=false∨(p3=true∧qr=false):=by
  have:=HB.out
  revert this
  cases p3<;>cases qr<;>simp
 rcases hd with rfl|⟨rfl,rfl⟩
 ·go_wp2_with (first|(with_reducible refine zb 62 rfl (by kernel_rfl) 47 (.tmp 2) rfl g 0 rfl M0 _ (ST.out _ _ H4.out (by simp)) Tryz.underlying47 rfl I0.out ?_)|(with_reducible refine zc rfl 47 (.tmp 4) (.tmp 62) rfl (g:=g+2) (off:=0) M0 rfl rfl H4.out SF0.out I0.out O0.out ?_;intro w6 h6;refine Hid.out ?_))
  refine za ?_;rw[SM0.out]at h6;have HZ:=za h6;clear h6 H4;go_wp2_with fail;refine bodyPost_ret (zr rfl _ _ (g+2) 47 M0 (0,0) _ _ rfl rfl (HZ.out.own (g+2,.cells M0 47 (0,0)) (by simp)) Tryz.underlying47 (by kernel_rfl) I0.out) rfl ?_;exact⟨rfl,HZ.out.weaken (A:=[_,_,_,_,_])⟩
 ·go_wp2_with (first|(with_reducible refine zb 57 rfl (by kernel_rfl) 52 (.tmp 9) rfl (gx+1) 0 rfl R8 _ (E9.out _ _ (gx+1) H4.out (by simp)) Tryz.underlying52 rfl RI.out ?_)|(with_reducible refine zb 59 rfl (by kernel_rfl) 52 (.tmp 58) rfl (g+1) 7 rfl RX _ (FE.out _ _ H4.out (by simp)).2.2.2.2.2.2.1 Tryz.underlying52 rfl IXX.out ?_)|(with_reducible refine zb 62 rfl (by kernel_rfl) 47 (.tmp 2) rfl g 0 rfl M0 _ (ST.out _ _ H4.out (by simp)) Tryz.underlying47 rfl I0.out ?_)|(with_reducible refine zc rfl 47 (.tmp 4) (.tmp 62) rfl (g:=g+2) (off:=0) M0 rfl rfl H4.out SF0.out I0.out O0.out ?_;intro w6 h6;refine Hid.out ?_))
  refine za ?_;rw[SM0.out]at h6;have HZ:=za h6;clear h6 H4;go_wp2_with fail;refine bodyPost_ret (zr rfl _ _ (g+2) 47 M0 (0,0) _ _ rfl rfl (HZ.out.own (g+2,.cells M0 47 (0,0)) (by simp)) Tryz.underlying47 (by kernel_rfl) I0.out) rfl ?_;exact⟨rfl,HZ.out.weaken (A:=[_,_,_,_,_])⟩
theorem rfd_call {A:Option Addr} (tb:Go.Proofs.YtnjnooeldkideaaGreatDoor.TB W J) (e:En) (eok:e.Ok) (hqs:e.call.name.size≤1000000) (c:Nat) (ok:m.Ok) (b0:0≤m.began) (b1:m.began≤1000000) (hrd:Rd W J Ln 1 A (y2 ns)) (hn:ns.length≤1000) (hsz:∀s∈ns,s.size≤1000000) (hL:∀p∈Ln,p∈F) (h:St W w J F) (h2:e.kind≠2) (hc:(e.kind != 1||(e.state != 0||(e.fault != 0||!eqS e.slot zS)))=false) (hb:(!(callD m ns e.call e.store).2.2||!eqRy (callD m ns e.call e.store).2.1 e.rep)=false):Calls Tryz.prog 16 #[.agg (stC m (.slice A ns.length c)),e.val] w (EPost W J F (.slice A ns.length c) ((callD m ns e.call e.store).1,true)):=by
 unfold EPost;dsimp only;have h1:=((h.alloc (.cells (stC m (.slice A ns.length c)) 47)).alloc (.cells e.cells 54)).alloc (.cells Tryz.zeroCells47 47);obtain⟨g,hg⟩:∃g,w.heap.size=g:=⟨_,rfl⟩;simp only[World.size_alloc,hg,Nat.add_assoc,Nat.reduceAdd]at h1;have s0:=zy (nv:=(.slice A ns.length c)) ok;have i0:=zz (nv:=(.slice A ns.length c)) ok;have o0:=ye (m:=m) (nv:=(.slice A ns.length c)) rfl
 have st:=fun(v:World) (X:List (Nat × Obj)) (hv:St W v J X) (hm:(g,Obj.cells (stC m (.slice A ns.length c)) 47 (0,0))∈X)=>(hv.whole hm:v.rangeAt g 0 (stC m (.slice A ns.length c)).toList)
 have fe:=fun(v:World) (X:List (Nat × Obj)) (hv:St W v J X) (hm:(g+1,Obj.cells e.cells 54 (0,0))∈X)=>(⟨(hv.en eok hm).kind,(hv.en eok hm).state,(hv.en eok hm).fault,(hv.en eok hm).store,(hv.en eok hm).slot,(hv.en eok hm).call,(hv.en eok hm).rep,(hv.en eok hm).all⟩:v.cell? ⟨g+1,0,none⟩=some (.int .i64 e.kind)∧v.cell? ⟨g+1,88,none⟩=some (.int .i64 e.state)∧v.cell? ⟨g+1,89,none⟩=some (.int .i64 e.fault)∧v.cell? ⟨g+1,87,none⟩=some (.int .i64 e.store)∧v.rangeAt (g+1) 90 e.slot.cells.toList∧v.rangeAt (g+1) 2 e.call.cells.toList∧v.rangeAt (g+1) 7 e.rep.cells.toList∧v.rangeAt (g+1) 0 e.cells.toList)
 have ei:=qk eok;have heqs:=uh e.slot zS eok.slot zS_ok;have bzs:=jr;have si:=yg eok.slot;obtain⟨qs,hqz⟩:∃b,eqS e.slot zS=b:=⟨_,rfl⟩;rw[hqz]at heqs;obtain⟨ZS0,hZS⟩:∃z,zS.cells=z:=⟨_,rfl⟩;rw[hZS]at heqs bzs
 have kc:=fun(v:World) (X:List (Nat × Obj)) (hp:∀p∈Ln,p∈X) (hv:St W v J X)=>zbq tb e.call eok.call hqs c ok b0 b1 hrd hn hsz hp e.store hv
 have pok:=zbb (ns:=ns) ok b0 b1 eok.call eok.o0 eok.o1;unfold DPost Cl.val at kc;obtain⟨⟨p1,p2,p3⟩,hP⟩:∃z,callD m ns e.call e.store=z:=⟨_,rfl⟩;rw[hP]at kc pok hb ⊢;dsimp only at kc pok hb ⊢;have s8:=zy (nv:=(.slice A ns.length c)) pok.1;have i8:=zz (nv:=(.slice A ns.length c)) pok.1;have o8:=ye (m:=p1) (nv:=(.slice A ns.length c)) rfl;have rs:=Ry.size pok.2.t;have ri:=yu pok.2.t;have ro:=Ry.one p2;have heqr:=qn p2 e.rep pok.2 eok.rep;have ix:=yu eok.rep.t;have ic:=ky e.call;obtain⟨qr,hqr⟩:∃b,eqRy p2 e.rep=b:=⟨_,rfl⟩;rw[hqr]at heqr hb;unfold En.val at *;obtain⟨ki,hki⟩:∃z,e.kind=z:=⟨_,rfl⟩;obtain⟨sta,hsta⟩:∃z,e.state=z:=⟨_,rfl⟩;obtain⟨flt,hflt⟩:∃z,e.fault=z:=⟨_,rfl⟩;obtain⟨sto,hsto⟩:∃z,e.store=z:=⟨_,rfl⟩;obtain⟨SX,hSX⟩:∃z,e.slot.cells=z:=⟨_,rfl⟩;obtain⟨CX,hCX⟩:∃z,e.call.cells=z:=⟨_,rfl⟩;obtain⟨RX,hRX⟩:∃z,e.rep.cells=z:=⟨_,rfl⟩;obtain⟨EX,hEX⟩:∃z,e.cells=z:=⟨_,rfl⟩;obtain⟨M0,hM0⟩:∃z,stC m (.slice A ns.length c)=z:=⟨_,rfl⟩;rw[hki,hsta,hflt,hsto,hSX,hCX,hRX,hEX]at fe;rw[hM0,hEX]at h1;rw[hEX]at ei ⊢;rw[hM0]at s0 i0 o0 st ⊢;obtain⟨M8,hM8⟩:∃z,stC p1 (.slice A ns.length c)=z:=⟨_,rfl⟩;obtain⟨R8,hR8⟩:∃z,p2.cells=z:=⟨_,rfl⟩;rw[hSX]at heqs si;rw[hki,hsta,hflt,hqz]at hc;rw[hM0,hCX,hsto]at kc;rw[hM8]at kc s8 i8 o8 ⊢;rw[hR8]at kc rs ri ro heqr;rw[hRX]at heqr ix;rw[hCX]at ic
 have e8:=fun(v:World) (X:List (Nat × Obj)) (b:Nat) (hv:St W v J X) (hm:(b,Obj.cells M8 47 (0,0))∈X)=>(hv.whole hm:v.rangeAt b 0 M8.toList)
 have e9:=fun(v:World) (X:List (Nat × Obj)) (b:Nat) (hv:St W v J X) (hm:(b,Obj.cells R8 52 (0,0))∈X)=>(hv.whole hm:v.rangeAt b 0 R8.toList)
 have rfit:0+R8.size≤Tryz.zeroCells52.size:=by rw[rs,zry];omega
 have rmany:zg Tryz.zeroCells52 0 R8.toList=R8:=by rw[zd _ _ (by rw[Array.length_toList,rs,zry]),Array.toArray_toList]
 obtain⟨q1,hq1⟩:∃b,(ki != 1)=b:=⟨_,rfl⟩;obtain⟨q2,hq2⟩:∃b,(sta != 0)=b:=⟨_,rfl⟩;obtain⟨q3,hq3⟩:∃b,(flt != 0)=b:=⟨_,rfl⟩
 have hk2:(ki==2)=false:=by rw[←hki];simpa using h2
 have hd:q1=false∧q2=false∧q3=false∧qs=true:=by
  rw[hq1,hq2,hq3]at hc
  revert hc
  cases q1<;>cases q2<;>cases q3<;>cases qs<;>simp
 obtain⟨rfl,rfl,rfl,rfl⟩:=hd;have SI:=za si;have BZS:=za bzs;have KC:=za kc;have I8:=za i8;have O8:=za o8;have E8:=za e8;have RI:=za ri;have RO:=za ro;have RF:=za rfit;have RM:=za rmany;have E9:=za e9;have IXX:=za ix;have IC:=za ic;have HB:=za hb
 have sfit0:0+M0.size≤Tryz.zeroCells47.size:=by rw[s0,zst];omega
 have smany0:zg Tryz.zeroCells47 0 M0.toList=M0:=by rw[zd _ _ (by rw[Array.length_toList,s0,zst]),Array.toArray_toList]
 have SF0:=za sfit0;have SM0:=za smany0;clear sfit0 smany0
 have sfit8:0+M8.size≤Tryz.zeroCells47.size:=by rw[s8,zst];omega
 have smany8:zg Tryz.zeroCells47 0 M8.toList=M8:=by rw[zd _ _ (by rw[Array.length_toList,s8,zst]),Array.toArray_toList]
 have SF8:=za sfit8;have SM8:=za smany8;clear sfit8 smany8;have H1:=za h1;have ST:=za st;have FE:=za fe;have I0:=za i0;have O0:=za o0;have EI:=za ei;have HL:=za hL;clear h1 st fe i0 o0 ei hL h s0 hM0 hEX hSX hCX hRX hki hsta hflt hsto tb eok hqs ok b0 b1 hrd hn hsz si bzs hqz hZS hc h2 kc i8 o8 e8 ri ro rfit rmany e9 ix ic rs s8 hR8 hM8 hqr hP pok hb
 go_enter Tryz.func16,Tryz.ntmps16
 obtain⟨c0,c88,c89,c87,-,-,-,-⟩:=FE.out _ _ H1.out (by simp)
 go_wp2_with (first|(with_reducible refine zb 39 rfl (by kernel_rfl) 26 (.tmp 38) rfl (g+1) 90 rfl SX _ (FE.out _ _ H1.out (by simp)).2.2.2.2.1 Tryz.underlying26 rfl SI.out ?_)|(with_reducible refine yt 40 rfl (by kernel_rfl) 26 _ rfl _ ?_ (BZS.out _) ?_;·go_simp)|(with_reducible refine zb 45 rfl (by kernel_rfl) 47 (.tmp 2) rfl g 0 rfl M0 _ (ST.out _ _ H1.out (by simp)) Tryz.underlying47 rfl I0.out ?_)|(with_reducible refine zb 47 rfl (by kernel_rfl) 50 (.tmp 46) rfl (g+1) 2 rfl CX _ (FE.out _ _ H1.out (by simp)).2.2.2.2.2.1 Tryz.underlying50 rfl IC.out ?_))
 go_at_call 20;refine(KC.out _ _ (fun p hp=>by simp[HL.out p hp]) H1.out).mono ?_;rintro e2 we ⟨rfl,he⟩;have hn:=(he.alloc (.cells Tryz.zeroCells47 47)).alloc (.cells Tryz.zeroCells52 52);obtain⟨gx,hgx⟩:∃y,we.heap.size=y:=⟨_,rfl⟩;simp only[World.size_alloc,hgx,Nat.add_assoc,Nat.reduceAdd]at hn;have hn2:=hn.perm (L':=(gx,.cells Tryz.zeroCells47 47 (0,0))::(gx+1,.cells Tryz.zeroCells52 52 (0,0))::(g+2,.cells Tryz.zeroCells47 47 (0,0))::(g+1,.cells EX 54 (0,0))::(g,.cells M0 47 (0,0))::F) ze;have HN:=za hn2;clear he hn hn2 H1 c0 c88 c89 c87 heqs
 go_wp2_with (with_reducible refine zc rfl 47 (.tmp 8) (.tmp 51) rfl (g:=gx) (off:=0) M8 rfl rfl HN.out SF8.out I8.out O8.out ?_;intro w3 h3;refine Hid.out ?_)
 refine za ?_;rw[SM8.out]at h3;have h4:=h3.perm (L':=(gx+1,.cells Tryz.zeroCells52 52 (0,0))::(gx,.cells M8 47 (0,0))::(g+2,.cells Tryz.zeroCells47 47 (0,0))::(g+1,.cells EX 54 (0,0))::(g,.cells M0 47 (0,0))::F) ze;have H3:=za h4;clear h3 h4 HN hgx
 go_wp2_with (with_reducible refine zc rfl 52 (.tmp 9) (.tmp 52) rfl (g:=gx+1) (off:=0) R8 rfl rfl H3.out RF.out RI.out RO.out ?_;intro w3 h3;refine Hid.out ?_)
 refine za ?_;rw[RM.out]at h3;have h4:=h3.perm (L':=(g+2,.cells Tryz.zeroCells47 47 (0,0))::(gx+1,.cells R8 52 (0,0))::(gx,.cells M8 47 (0,0))::(g+1,.cells EX 54 (0,0))::(g,.cells M0 47 (0,0))::F) ze;have H4:=za h4;clear h3 h4 H3
 have hd:p3=true∧qr=true:=by
  have:=HB.out
  revert this
  cases p3<;>cases qr<;>simp
 obtain⟨rfl,rfl⟩:=hd
 go_wp2_with (first|(with_reducible refine zb 57 rfl (by kernel_rfl) 52 (.tmp 9) rfl (gx+1) 0 rfl R8 _ (E9.out _ _ (gx+1) H4.out (by simp)) Tryz.underlying52 rfl RI.out ?_)|(with_reducible refine zb 59 rfl (by kernel_rfl) 52 (.tmp 58) rfl (g+1) 7 rfl RX _ (FE.out _ _ H4.out (by simp)).2.2.2.2.2.2.1 Tryz.underlying52 rfl IXX.out ?_)|(with_reducible refine zb 63 rfl (by kernel_rfl) 47 (.tmp 8) rfl gx 0 rfl M8 _ (E8.out _ _ gx H4.out (by simp)) Tryz.underlying47 rfl I8.out ?_)|(with_reducible refine zc rfl 47 (.tmp 4) (.tmp 63) rfl (g:=g+2) (off:=0) M8 rfl rfl H4.out SF8.out I8.out O8.out ?_;intro w6 h6;refine Hid.out ?_))
 refine za ?_;rw[SM8.out]at h6;have HZ:=za h6;clear h6 H4;go_wp2_with fail;refine bodyPost_ret (zr rfl _ _ (g+2) 47 M8 (0,0) _ _ rfl rfl (HZ.out.own (g+2,.cells M8 47 (0,0)) (by simp)) Tryz.underlying47 (by kernel_rfl) I8.out) rfl ?_;exact⟨rfl,HZ.out.weaken (A:=[_,_,_,_,_])⟩
theorem r26_do {A:Option Addr} (tb:Go.Proofs.YtnjnooeldkideaaGreatDoor.TB W J) (e:En) (eok:e.Ok) (hqs:e.call.name.size≤1000000) (c:Nat) (ok:m.Ok) (b0:0≤m.began) (b1:m.began≤1000000) (hrd:Rd W J Ln 1 A (y2 ns)) (hn:ns.length≤1000) (hsz:∀s∈ns,s.size≤1000000) (hL:∀p∈Ln,p∈F) (h:St W w J F):Calls Tryz.prog 16 #[.agg (stC m (.slice A ns.length c)),e.val] w (EPost W J F (.slice A ns.length c) (doD m ns e)):=by
 unfold doD
 by_cases h2:e.kind=2
 ·rw[if_pos h2]
  cases hb:(endD m e).2 with
  | true=>rw[if_pos rfl];exact rfd_two tb e eok hqs c ok b0 b1 hrd hn hsz hL h h2 hb
  | false=>rw[if_neg (by decide)];exact rfd_two_no tb e eok hqs c ok b0 b1 hrd hn hsz hL h h2 hb
 ·rw[if_neg h2]
  cases hc:(e.kind != 1||(e.state != 0||(e.fault != 0||!eqS e.slot zS))) with
  | true=>rw[if_pos rfl];exact rfd_not tb e eok hqs c ok b0 b1 hrd hn hsz hL h h2 hc
  | false=>
   rw[if_neg (by decide)]
   cases hb:(!(callD m ns e.call e.store).2.2||!eqRy (callD m ns e.call e.store).2.1 e.rep) with
   | true=>rw[if_pos rfl];exact rfd_call_no tb e eok hqs c ok b0 b1 hrd hn hsz hL h h2 hc hb
   | false=>rw[if_neg (by decide)];exact rfd_call tb e eok hqs c ok b0 b1 hrd hn hsz hL h h2 hc hb
end
end Go.Proofs.YtnjnooeldkideaaGreatDoor
