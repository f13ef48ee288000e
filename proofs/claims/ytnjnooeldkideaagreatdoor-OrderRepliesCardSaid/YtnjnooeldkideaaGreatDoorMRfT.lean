/- order: the document's state. order: the document's keep. The document's decoder, in plain Lean. The result of a function is a row: see the text that it imports. -/
import Derived.Test.YtnjnooeldkideaaGreatDoorRfA
import Derived.Test.YtnjnooeldkideaaGreatDoorRfP
import Derived.Test.YtnjnooeldkideaaGreatDoorMOrDo
import Derived.OwnWalk
import Derived.Lib.MinMax
import Derived.Test.YtnjnooeldkideaaGreatDoorOrCe
import Derived.Test.YtnjnooeldkideaaGreatDoorMOrT
import Derived.Test.YtnjnooeldkideaaGreatDoorMParts
namespace Go.Proofs.YtnjnooeldkideaaGreatDoor
set_option maxRecDepth 100000
set_option maxHeartbeats 4000000
section
set_option linter.unusedVariables false
set_option linter.unusedSimpArgs false
open Go.RowKit Go.Lib Go.Deep
section
variable {W w:World} {J:Nat→Option Obj} {t:Tb} {F:List (Nat × Obj)}
variable {m:Md} {nv:Value}
def stT (m:Md) (nv:Value):List Value:=[nv,.int .i64 m.tries,.int .i64 m.job.number,.int .i64 m.job.state,.int .i64 m.job.fault,.int .i64 m.began,.bool m.job.live,.int .i64 m.job.slot,.int .u64 m.job.floor]
def stC (m:Md) (nv:Value):Array Value:=(m.known.cells.toList++stT m nv).toArray
theorem zy (ok:m.Ok):(stC m nv).size=84:=by
 unfold stC;rw[List.size_toArray,List.length_append,Array.length_toList,Tb.size ok.known]
 rfl
theorem zz (ok:m.Ok):(Tryz.prog.info? 47).map (·.size)=some (stC m nv).size:=by rw[zy ok];kernel_rfl
theorem ye (h:nv.oneCell'=true):(stC m nv).all (·.oneCell')=true:=by
 have q:=m.known.one;rw[←Array.all_toList]at q;unfold stC;rw[←Array.all_toList,List.toList_toArray,List.all_append,q,Bool.true_and]
 show(nv.oneCell'&&_)=true
 rw[h]
 rfl
theorem zst:Tryz.zeroCells47.size=84:=by kernel_rfl
theorem stC_g (ok:m.Ok) (j:Nat):(stC m nv)[75+j]?=(stT m nv)[j]?:=by
 have h:=Tb.size ok.known;unfold stC;rw[List.getElem?_toArray,List.getElem?_append_right (by rw[Array.length_toList,h];omega),Array.length_toList,h]
 congr 1
 omega
theorem stC_t (ok:m.Ok) (j:Nat) (hj:j < 75):(stC m nv)[j]?=m.known.cells[j]?:=by
 have h:=Tb.size ok.known;unfold stC;rw[List.getElem?_toArray,List.getElem?_append_left (by rw[Array.length_toList,h];omega)]
 simp
structure SttAt (v:World) (g:Nat) (m:Md) (nv:Value):Prop where
 known:v.rangeAt g 0 m.known.cells.toList
 names:v.cell? ⟨g,75,none⟩=some nv
 tries:v.cell? ⟨g,76,none⟩=some (.int .i64 m.tries)
 number:v.cell? ⟨g,77,none⟩=some (.int .i64 m.job.number)
 state:v.cell? ⟨g,78,none⟩=some (.int .i64 m.job.state)
 fault:v.cell? ⟨g,79,none⟩=some (.int .i64 m.job.fault)
 began:v.cell? ⟨g,80,none⟩=some (.int .i64 m.began)
 live:v.cell? ⟨g,81,none⟩=some (.bool m.job.live)
 slot:v.cell? ⟨g,82,none⟩=some (.int .i64 m.job.slot)
 floor:v.cell? ⟨g,83,none⟩=some (.int .u64 m.job.floor)
 all:v.rangeAt g 0 (stC m nv).toList
theorem St.stt {v:World} {X:List (Nat × Obj)} {g:Nat} {T:TypeId} {fr:Nat × Nat} (ok:m.Ok) (h:St W v J X) (hm:(g,Obj.cells (stC m nv) T fr)∈X):SttAt v g m nv:=by
 have d:=fun j=>(h.cell hm (75+j)).trans (stC_g ok j)
 refine⟨fun j u hj=>?_,d 0,d 1,d 2,d 3,d 4,d 5,d 6,d 7,d 8,fun j u hj=>by rw[Nat.zero_add,h.cell hm j];simpa using hj⟩
 have hl:j < 75:=by have:=(List.getElem?_eq_some_iff.1 hj).1;rw[Array.length_toList,Tb.size ok.known]at this;exact this
 rw[Nat.zero_add,h.cell hm j,stC_t ok j hl]
 simpa using hj
theorem run_build_stt (t:Tb) (ok:t.Ok) (A:Option Addr) (n c:Nat) (x:Int) (w:World):(Instr.build 47 #[(0,.agg t.cells),(1,.slice A n c),(2,.int .i64 x)]).run Tryz.prog w=.ok (.agg (stC (⟨t,x,zJ,0⟩:Md) (.slice A n c))) w:=by
 obtain⟨⟨st,tr,ver,sz,ds⟩,⟨st',tr',ver',sz',ds'⟩,ac,bo,fl⟩:=t;have h0:=ok.s0.dig;have h1:=ok.s1.dig;simp only at h0 h1;obtain⟨d0,d1,d2,d3,d4,d5,d6,d7,d8,d9,d10,d11,d12,d13,d14,d15,d16,d17,d18,d19,d20,d21,d22,d23,d24,d25,d26,d27,d28,d29,d30,d31,rfl⟩:=jv ds h0;obtain⟨e0,e1,e2,e3,e4,e5,e6,e7,e8,e9,e10,e11,e12,e13,e14,e15,e16,e17,e18,e19,e20,e21,e22,e23,e24,e25,e26,e27,e28,e29,e30,e31,rfl⟩:=jv ds' h1;exact run_build w _ _ _ (by kernel_rfl)
theorem y5 (n:Int) (h:St W w J F):Calls Tryz.prog 43 #[.int .i64 n] w fun e w'=>e=.returned (.bool (keptB n))∧w'=w:=by
 obtain⟨R,hR⟩:∃y,keptB n=y:=⟨_,rfl⟩;have HR:=za hR;rw[hR];clear hR h
 go_enter Tryz.func43,Tryz.ntmps43
 by_cases h0:n=0
 ·subst h0
  go_wp2_with fail;go_ret;exact⟨by rw[←HR.out];rfl,rfl⟩
 ·have b0:(n==0)=false:=by simpa using h0
  by_cases h1:n=92
  ·subst h1
   go_wp2_with fail;go_ret;exact⟨by rw[←HR.out];rfl,rfl⟩
  ·have b1:(n==92)=false:=by simpa using h1
   by_cases h2:n=64
   ·subst h2
    go_wp2_with fail;go_ret;exact⟨by rw[←HR.out];rfl,rfl⟩
   ·have b2:(n==64)=false:=by simpa using h2
    have HB:=za (show keptB n=false by simp[keptB,b0,b1,b2]);clear h0 h1 h2;go_wp2_with fail;go_ret;exact⟨by rw[←HR.out,HB.out];rfl,rfl⟩
theorem jh (x:Int) (h:St W w J F):Calls Tryz.prog 45 #[.int .i64 x] w fun e w'=>e=.returned (.agg (⟨x,0,0,0,0,zTb⟩:Ry).cells)∧St W w' J F:=by
 have h1:=h.alloc (.cells Tryz.zeroCells52 52);obtain⟨g,hg⟩:∃g,w.heap.size=g:=⟨_,rfl⟩;rw[hg]at h1;have bz:=uj x;have rsz:=Ry.size (r:=(⟨x,0,0,0,0,zTb⟩:Ry)) zt;have rai:=yu (r:=(⟨x,0,0,0,0,zTb⟩:Ry)) zt;have rao:=Ry.one (⟨x,0,0,0,0,zTb⟩:Ry);obtain⟨R,hR⟩:∃y,(⟨x,0,0,0,0,zTb⟩:Ry).cells=y:=⟨_,rfl⟩;rw[hR]at bz rsz rai rao ⊢
 have rfit:0+R.size≤Tryz.zeroCells52.size:=by rw[rsz,zry];omega
 have rmany:zg Tryz.zeroCells52 0 R.toList=R:=by rw[zd _ _ (by rw[Array.length_toList,rsz,zry]),Array.toArray_toList]
 have H1:=za h1;have BZ:=za bz;have RAI:=za rai;have RAO:=za rao;have RF:=za rfit;have RM:=za rmany;clear h1 bz rai rao rfit rmany rsz hR h
 go_enter Tryz.func45,Tryz.ntmps45
 go_wp2_with (first|(with_reducible refine zh rfl 52 _ rfl _ ?_ (BZ.out _) ?_;·go_simp)|(with_reducible refine zc rfl 52 (.tmp 2) (.tmp 4) rfl (g:=g) (off:=0) R rfl rfl H1.out RF.out RAI.out RAO.out ?_;intro w2 h2;refine Hid.out ?_))
 refine za ?_;rw[RM.out]at h2;have HZ:=za h2;clear h2 H1;go_wp2_with fail;refine bodyPost_ret (zp rfl _ _ g 52 R (0,0) _ rfl (HZ.out.own (g,.cells R 52 (0,0)) (List.mem_cons_self ..)) Tryz.underlying52 (by kernel_rfl) RAI.out) rfl ?_;exact⟨rfl,HZ.out.weaken (A:=[_])⟩
theorem r26_new (tok:t.Ok) (A:Option Addr) (n c:Nat) (x:Int) (h:St W w J F):Calls Tryz.prog 15 #[t.val,.slice A n c,.int .i64 x] w fun e w'=>e=.returned (.agg (stC (newM t x) (.slice A n c)))∧St W w' J F:=by
 have h1:=(h.alloc (.cells t.cells 29)).alloc (.cells Tryz.zeroCells47 47);obtain⟨g,hg⟩:∃g,w.heap.size=g:=⟨_,rfl⟩;rw[World.size_alloc,hg]at h1;have nok:=newM_ok tok x;have bz:=run_build_stt t tok A n c (max 1 (min x 7));have rsz:=zy (nv:=.slice A n c) nok;have rai:=zz (nv:=.slice A n c) nok;have rao:=ye (m:=newM t x) (nv:=.slice A n c) rfl;have ti:=z7 tok;have rt:=(h1.tb (T:=29) (g:=g) (fr:=(0,0)) tok (by simp)).all;rw[show(⟨t,max 1 (min x 7),zJ,0⟩:Md)=newM t x from rfl]at bz;unfold Tb.val at *;obtain⟨C,hC⟩:∃C,t.cells=C:=⟨_,rfl⟩;rw[hC]at h1 bz ti rt ⊢;obtain⟨R,hR⟩:∃y,stC (newM t x) (.slice A n c)=y:=⟨_,rfl⟩;rw[hR]at bz rsz rai rao ⊢
 have rfit:0+R.size≤Tryz.zeroCells47.size:=by rw[rsz,zst];omega
 have rmany:zg Tryz.zeroCells47 0 R.toList=R:=by rw[zd _ _ (by rw[Array.length_toList,rsz,zst]),Array.toArray_toList]
 have H1:=za h1;have BZ:=za bz;have RAI:=za rai;have RAO:=za rao;have RF:=za rfit;have RM:=za rmany;have TI:=za ti;have RT:=za rt;clear h1 bz rai rao rfit rmany rsz hR h hC ti rt nok tok
 go_enter Tryz.func15,Tryz.ntmps15
 go_wp2_with (first|(with_reducible refine zb 7 rfl (by kernel_rfl) 29 (.tmp 3) rfl g 0 rfl C _ RT.out Tryz.underlying29 rfl TI.out ?_)|(with_reducible refine zh rfl 47 _ rfl _ ?_ (BZ.out _) ?_;·go_simp)|(with_reducible refine zc rfl 47 (.tmp 6) (.tmp 12) rfl (g:=g+1) (off:=0) R rfl rfl H1.out RF.out RAI.out RAO.out ?_;intro w2 h2;refine Hid.out ?_))
 refine za ?_;rw[RM.out]at h2;have HZ:=za h2;clear h2 H1;go_wp2_with fail;refine bodyPost_ret (zp rfl _ _ (g+1) 47 R (0,0) _ rfl (HZ.out.own (g+1,.cells R 47 (0,0)) (List.mem_cons_self ..)) Tryz.underlying47 (by kernel_rfl) RAI.out) rfl ?_;exact⟨rfl,HZ.out.weaken (A:=[_,_])⟩
end
end

section
set_option linter.unusedVariables false
set_option linter.unusedSimpArgs false
open Go.RowKit Go.Lib Go.Deep
section
variable {W w:World} {J:Nat→Option Obj} {t:Tb} {F:List (Nat × Obj)}
theorem yq {P:Program} {fn:Func} {p q u:Tmp} {ty ty':TypeId} (h:fn.results=#[.cell p ty,.cell q ty',.tmp u]) (tmps:Array Value) (w:World) (g g':Nat) (t t':TypeId) (cs cs':Array Value) (fr fr':Nat × Nat) (d d':TypeDesc) (v:Value)
  (hp:tmps.getD p undef=.pointer (some ⟨g,0,none⟩)) (hq:tmps.getD q undef=.pointer (some ⟨g',0,none⟩)) (hv:tmps.getD u undef=v) (hg:w.heap[g]?=some (.cells cs t fr)) (hg':w.heap[g']?=some (.cells cs' t' fr'))
  (hu:P.underlying ty=some d) (hd:(match d with | .struct _ | .array _ _=>true|_=>false)=true) (hi:(P.info? ty).map (·.size)=some cs.size)
  (hu':P.underlying ty'=some d') (hd':(match d' with | .struct _ | .array _ _=>true|_=>false)=true) (hi':(P.info? ty').map (·.size)=some cs'.size) :
  (results fn tmps).run P w=.ok (.tuple #[.agg cs,.agg cs',v]) w:=by
 have hp':tmps[p]?.getD undef=.pointer (some ⟨g,0,none⟩):=by simpa using hp
 have hq':tmps[q]?.getD undef=.pointer (some ⟨g',0,none⟩):=by simpa using hq
 have hv':tmps[u]?.getD undef=v:=by simpa using hv
 simp[results,h,hp',hq',hv',asAddr,run_loadVar_row w g t ty cs fr d hg hu hd hi,run_loadVar_row w g' t' ty' cs' fr' d' hg' hu' hd' hi']
theorem St.whole {v:World} {X:List (Nat × Obj)} {g:Nat} {C:Array Value} {T:TypeId} {fr:Nat × Nat} (h:St W v J X) (hm:(g,Obj.cells C T fr)∈X):v.rangeAt g 0 C.toList:=fun j u hj=>by rw[Nat.zero_add,h.cell hm j];simpa using hj
variable {m m':Md} {nv:Value} {r:Ry}
def keepM (m m':Md) (cs:List Cg) (r:Ry) (store:Int):Md × Ry:=if store=0 then ({ m' with known:=(zv m.known cs).1 },r) else (m,⟨store,0,0,0,0,zTb⟩)
theorem stC_known (m:Md) (T:Tb) (ok:m.Ok) (tok2:T.Ok):zg (stC m nv) 0 T.cells.toList=stC { m with known:=T } nv:=by
 have h:=yb [] m.known.cells.toList T.cells.toList (stT m nv) (by rw[Array.length_toList,Array.length_toList,Tb.size ok.known,Tb.size tok2]);exact h
theorem zar {cs:List Cg} {A:Option Addr} {n c:Nat} {L:List (Nat × Obj)} {store:Int} (on:nv.oneCell'=true) (ok:m.Ok) (ok':m'.Ok) (rk:r.t.Ok) (hf:∀c∈cs,FormC c) (hr:Row 147 40 (.slice A n c) n (cgs cs) L) (h8:cs.length≤8) (h:St W w J (L++F)) :
  Calls Tryz.prog 48 #[.agg (stC m nv),.agg (stC m' nv),.slice A n c,.agg r.cells,.int .i64 store] w fun e w'=>e=.returned (.tuple #[.agg (stC (keepM m m' cs r store).1 nv),.agg (keepM m m' cs r store).2.cells,.bool true])∧St W w' J (L++F):=by
 have h1:=((((h.alloc (.cells (stC m nv) 47)).alloc (.cells (stC m' nv) 47)).alloc (.cells r.cells 52)).alloc (.cells Tryz.zeroCells47 47)).alloc (.cells Tryz.zeroCells52 52);obtain⟨g,hg⟩:∃g,w.heap.size=g:=⟨_,rfl⟩;simp only[World.size_alloc,hg,Nat.add_assoc,Nat.reduceAdd]at h1;have s0:=zy (nv:=nv) ok;have i0:=zz (nv:=nv) ok;have o0:=ye (m:=m) on;obtain⟨M0,hM0⟩:∃y,stC m nv=y:=⟨_,rfl⟩;obtain⟨M1,hM1⟩:∃y,stC m' nv=y:=⟨_,rfl⟩
 by_cases hz:store=0
 ·subst hz
  have ka:=fun(v:World) (X:List (Nat × Obj)) (hv:St W v J (L++X))=>ref_apply ok.known hf hr h8 hv
  have tok2:=qa ok.known hf;have kk:keepM m m' cs r 0=({ m' with known:=(zv m.known cs).1 },r):=if_pos rfl;rw[kk];clear kk;dsimp only;obtain⟨P,hP⟩:∃P,zv m.known cs=P:=⟨_,rfl⟩;rw[hP]at ka tok2 ⊢;obtain⟨T,f⟩:=P;dsimp only at tok2 ⊢;have nok:({ m' with known:=T }:Md).Ok:=⟨tok2,ok'.2,ok'.3,ok'.4,ok'.5,ok'.6⟩;have s2:=zy (nv:=nv) nok;have i2:=zz (nv:=nv) nok;have o2:=ye (m:={ m' with known:=T }) on;have kn:=stC_known (nv:=nv) m' T ok' tok2;have ti:=z7 tok2;have tno:=T.one;have ts:=Tb.size tok2;have ti0:=z7 ok.known;have s1:=zy (nv:=nv) ok';have rt:=(h1.stt ok (g:=g) (nv:=nv) (T:=47) (fr:=(0,0)) (by simp)).known;obtain⟨C0,hC0⟩:∃y,m.known.cells=y:=⟨_,rfl⟩;have rsz:=Ry.size rk;have rai:=yu rk;have rao:=Ry.one r;obtain⟨Y,hY⟩:∃y,r.cells=y:=⟨_,rfl⟩;obtain⟨M2,hM2⟩:∃y,stC { m' with known:=T } nv=y:=⟨_,rfl⟩;unfold Tb.val at ka;obtain⟨C,hC⟩:∃y,T.cells=y:=⟨_,rfl⟩;rw[hM0,hM1,hY]at h1 rt ⊢;rw[hM2]at s2 i2 o2 kn ⊢;rw[hM1]at s1 kn;rw[hC]at kn ti tno ts;rw[hC0]at ka rt ti0;rw[hY]at rsz rai rao
  have cfit:0+C.size≤M1.size:=by rw[ts,s1];omega
  have H1:=za h1;have KA:=za ka;have KN:=za kn;have TI:=za ti;have TNO:=za tno;have TI0:=za ti0;have RT:=za rt;have CF:=za cfit;have I2:=za i2;have O2:=za o2;have RAI:=za rai;have RAO:=za rao;have HS2:=za s2;have HRS:=za rsz;have HTC:=za hC;clear h1 ka kn ti tno ti0 rt cfit i2 o2 rai rao s2 rsz s1 ts hC hC0 hM0 hM1 hM2 hY h i0 o0 s0
  go_enter Tryz.func48,Tryz.ntmps48
  go_wp2_with ((with_reducible refine zb 20 rfl (by kernel_rfl) 29 (.tmp 19) rfl g 0 rfl C0 _ RT.out Tryz.underlying29 rfl TI0.out ?_))
  go_at_call 64;refine(KA.out _ ((g+4,.cells Tryz.zeroCells52 52 (0,0))::(g+3,.cells Tryz.zeroCells47 47 (0,0))::(g+2,.cells Y 52 (0,0))::(g+1,.cells M1 47 (0,0))::(g,.cells M0 47 (0,0))::F) (H1.out.perm ze)).mono ?_;rintro e wx ⟨rfl,hx⟩;have h3:=hx.perm (L':=(g+1,.cells M1 47 (0,0))::(g+4,.cells Tryz.zeroCells52 52 (0,0))::(g+3,.cells Tryz.zeroCells47 47 (0,0))::(g+2,.cells Y 52 (0,0))::(g,.cells M0 47 (0,0))::(L++F)) ze;have H3:=za h3;clear h3 hx H1 RT;dsimp only[Tb.val];rw[HTC.out]
  go_wp2_with (with_reducible refine zc rfl 29 (.tmp 25) (.tmp 23) rfl (g:=g+1) (off:=0) C rfl rfl H3.out CF.out TI.out TNO.out ?_;intro w3 h4;refine Hid.out ?_)
  refine za ?_;rw[KN.out]at h4;have H4:=za h4;clear h4 H3;go_wp2_with fail;have h5:=H4.out.drew1.perm (L':=(g+3,.cells Tryz.zeroCells47 47 (0,0))::(g+4,.cells Tryz.zeroCells52 52 (0,0))::(g+1,.cells M2 47 (0,0))::(g+2,.cells Y 52 (0,0))::(g,.cells M0 47 (0,0))::(L++F)) ze;have HDW:=za h5;clear h5 H4;have HUS:=za Tryz.underlying47;have HUR:=za Tryz.underlying52
  have sf:0+M2.size≤Tryz.zeroCells47.size:=by rw[HS2.out,zst];omega
  have sm:zg Tryz.zeroCells47 0 M2.toList=M2:=by rw[zd _ _ (by rw[Array.length_toList,HS2.out,zst]),Array.toArray_toList]
  have yf:0+Y.size≤Tryz.zeroCells52.size:=by rw[HRS.out,zry];omega
  have ym:zg Tryz.zeroCells52 0 Y.toList=Y:=by rw[zd _ _ (by rw[Array.length_toList,HRS.out,zry]),Array.toArray_toList]
  have SF:=za sf;have SM:=za sm;have YF:=za yf;have YM:=za ym;clear sf sm yf ym;have FSx:=za (show ∀(v:World) (X:List (Nat × Obj)),St W v J X→(g+1,Obj.cells M2 47 (0,0))∈X→(g+2,Obj.cells Y 52 (0,0))∈X→v.rangeAt (g+1) 0 M2.toList∧v.rangeAt (g+2) 0 Y.toList from fun v X hv a b=>⟨hv.whole a,hv.whole b⟩);have s1:=FSx.out _ _ HDW.out (by simp) (by simp);refine wp_region_held_drew (S:=fun v=>v.rangeAt (g+1) 0 M2.toList∧v.rangeAt (g+2) 0 Y.toList) (by kernel_rfl) s1 (fun hHeld=>?_)
  refine tk op0 (v:=?_) (by kernel_rfl) ?_ (by assumption) ?_ fun _ _ _ h=>h
  rotate_left
  ·(((refine yieldsIf_load_mid ?_ 47 (.tmp 6) ?_ (g+1) 0 ?_ M2.toList _ ?_ HUS.out ?_ I2.out)<;>first|rfl|exact fun w h=>h.1))
  try simp only[Act.put,pu1,pu2,pu3]
  refine tk op1 (v:=?_) (by kernel_rfl) ?_ (by assumption) ?_ fun _ _ _ h=>h
  rotate_left
  ·(((refine yieldsIf_load_mid ?_ 52 (.tmp 8) ?_ (g+2) 0 ?_ Y.toList _ ?_ HUR.out ?_ RAI.out)<;>first|rfl|exact fun w h=>h.2))
  try simp only[Act.put,pu1,pu2,pu3]
  refine rd1 op2 (by kernel_rfl) fun K hK=>?_
  ((refine zq rfl 47 (.tmp 10) (.tmp 26) rfl (g:=g+3) (off:=0) M2 rfl rfl HDW.out SF.out I2.out O2.out ?_;intro wa ha;rw[SM.out]at ha;dsimp only))
  refine hK.out _ _ ?_ fun hHeld=>?_
  ·(try dsimp only)<;>((exact FSx.out _ _ ha (by simp) (by simp)))
  clear hK K
  try simp only[Act.put,pu1,pu2,pu3]
  refine rd1 op3 (by kernel_rfl) fun K hK=>?_
  ((refine zq rfl 52 (.tmp 11) (.tmp 27) rfl (g:=g+4) (off:=0) Y rfl rfl (ha.perm (L':=(g+4,.cells Tryz.zeroCells52 52 (0,0))::(g+3,.cells M2 47 (0,0))::(g+1,.cells M2 47 (0,0))::(g+2,.cells Y 52 (0,0))::(g,.cells M0 47 (0,0))::(L++F)) ze) YF.out RAI.out RAO.out ?_;intro wf hf;rw[YM.out]at hf;dsimp only))
  refine hK.out _ _ ?_ fun hHeld=>?_
  ·(try dsimp only)<;>((exact FSx.out _ _ hf (by simp) (by simp)))
  clear hK K
  try simp only[Act.put,pu1,pu2,pu3]
  refine tk op4 (v:=?_) (by kernel_rfl) ?_ (by assumption) ?_ fun _ _ _ h=>h
  rotate_left
  ·(refine ya rfl fun w hSw=>?_;go_simp;rfl)
  try simp only[Act.put,pu1,pu2,pu3]
  refine wpAnyH_done (by kernel_rfl) ?_ _;have HZ:=za hf;clear hf HDW s1;go_wp2_with fail;refine bodyPost_ret (yq rfl _ _ (g+3) (g+4) 47 52 M2 Y (0,0) (0,0) _ _ _ rfl rfl rfl (HZ.out.own (g+3,.cells M2 47 (0,0)) (by simp)) (HZ.out.own (g+4,.cells Y 52 (0,0)) (by simp)) Tryz.underlying47 (by kernel_rfl) I2.out Tryz.underlying52 (by kernel_rfl) RAI.out) rfl ?_;exact⟨rfl,HZ.out.weaken (A:=[_,_,_,_,_])⟩
 ·have hb:(store==0)=false:=by simpa using hz
  have hk:keepM m m' cs r store=(m,⟨store,0,0,0,0,zTb⟩):=if_neg hz;rw[hk];clear hk hz;have bz:=uj store;have rsz:=Ry.size (r:=(⟨store,0,0,0,0,zTb⟩:Ry)) zt;have rai:=yu (r:=(⟨store,0,0,0,0,zTb⟩:Ry)) zt;have rao:=Ry.one (⟨store,0,0,0,0,zTb⟩:Ry);obtain⟨R,hR⟩:∃y,(⟨store,0,0,0,0,zTb⟩:Ry).cells=y:=⟨_,rfl⟩;obtain⟨Y,hY⟩:∃y,r.cells=y:=⟨_,rfl⟩;dsimp only;rw[hR]at bz rsz rai rao ⊢;rw[hM0]at s0 i0 o0;rw[hM0,hM1,hY]at h1 ⊢;have rt:=h1.whole (g:=g) (C:=M0) (T:=47) (fr:=(0,0)) (by simp)
  have rfit:0+R.size≤Tryz.zeroCells52.size:=by rw[rsz,zry];omega
  have rmany:zg Tryz.zeroCells52 0 R.toList=R:=by rw[zd _ _ (by rw[Array.length_toList,rsz,zry]),Array.toArray_toList]
  have sfit:0+M0.size≤Tryz.zeroCells47.size:=by rw[s0,zst];omega
  have smany:zg Tryz.zeroCells47 0 M0.toList=M0:=by rw[zd _ _ (by rw[Array.length_toList,s0,zst]),Array.toArray_toList]
  have H1:=za h1;have BZ:=za bz;have RAI:=za rai;have RAO:=za rao;have RF:=za rfit;have RM:=za rmany;have SF:=za sfit;have SM:=za smany;have I0:=za i0;have O0:=za o0;have RT:=za rt;clear h1 bz rai rao rfit rmany rsz hR h sfit smany i0 o0 rt hM0 hM1 hY s0
  go_enter Tryz.func48,Tryz.ntmps48
  go_wp2_with (first|(with_reducible refine zb 15 rfl (by kernel_rfl) 47 (.tmp 5) rfl g 0 rfl M0 _ RT.out Tryz.underlying47 rfl I0.out ?_)|(with_reducible refine zh rfl 52 _ rfl _ ?_ (BZ.out _) ?_;·go_simp)|(with_reducible refine zc rfl 47 (.tmp 10) (.tmp 15) rfl (g:=g+3) (off:=0) M0 rfl rfl (H1.out.perm (L':=(g+3,.cells Tryz.zeroCells47 47 (0,0))::(g+4,.cells Tryz.zeroCells52 52 (0,0))::(g,.cells M0 47 (0,0))::(g+1,.cells M1 47 (0,0))::(g+2,.cells Y 52 (0,0))::(L++F)) ze) SF.out I0.out O0.out ?_;intro w2 h2;refine Hid.out ?_))
  refine za ?_;rw[SM.out]at h2;have h3:=h2.perm (L':=(g+4,.cells Tryz.zeroCells52 52 (0,0))::(g+3,.cells M0 47 (0,0))::(g,.cells M0 47 (0,0))::(g+1,.cells M1 47 (0,0))::(g+2,.cells Y 52 (0,0))::(L++F)) ze;have H3:=za h3;clear h2 h3 H1
  go_wp2_with (with_reducible refine zc rfl 52 (.tmp 11) (.tmp 17) rfl (g:=g+4) (off:=0) R rfl rfl H3.out RF.out RAI.out RAO.out ?_;intro w3 h4;refine Hid.out ?_)
  refine za ?_;rw[RM.out]at h4;have HZ:=za h4;clear h4 H3;go_wp2_with fail;refine bodyPost_ret (yq rfl _ _ (g+3) (g+4) 47 52 M0 R (0,0) (0,0) _ _ _ rfl rfl rfl (HZ.out.own (g+3,.cells M0 47 (0,0)) (by simp)) (HZ.out.own (g+4,.cells R 52 (0,0)) (by simp)) Tryz.underlying47 (by kernel_rfl) I0.out Tryz.underlying52 (by kernel_rfl) RAI.out) rfl ?_;exact⟨rfl,HZ.out.weaken (A:=[_,_,_,_,_])⟩
end
end

section
set_option linter.unusedVariables false
set_option linter.unusedSimpArgs false
open Go.RowKit Go.Lib
def y9 (t:ByteArray):Nat × Nat × Bool:=if brokenAt t 0 then ((t.get! 0).toNat,1,true) else ((Utf8.decode t 0).1,(Utf8.decode t 0).2,false)
def contB (c:Nat):Prop:=128≤c∧c≤191
def Kd (a sz base least:Nat):Prop:=(194≤a∧a < 224∧sz=2∧base=192∧least=128)∨(224≤a∧a < 240∧sz=3∧base=224∧least=2048)∨(240≤a∧a < 245∧sz=4∧base=240∧least=65536)
def accV (t:ByteArray) (base:Nat):Nat→Nat
 | 0=>0
 | 1=>(t.get! 0).toNat-base
 | i+2=>64*accV t base (i+1)+(t.get! (i+1)).toNat-128
theorem zal {a b c d:Nat} (h:a=c) (k:b=d):(a,b)=(c,d):=by rw[h,k]
theorem fin2_bad (n a b c d:Nat) (k1:194≤a) (k2:a < 224) (hn:2≤n) (cb:128≤b∧b≤191) (h:64*(a-192)+b-128 < 128∨1114111 < 64*(a-192)+b-128∨(55296≤64*(a-192)+b-128∧64*(a-192)+b-128≤57343)):decodeN n a b c d=(65533,1):=by
 unfold decodeN
 repeat' split
 all_goals (exfalso;omega)
theorem fin2_good (n a b c d:Nat) (k1:194≤a) (k2:a < 224) (hn:2≤n) (cb:128≤b∧b≤191) (h:¬(64*(a-192)+b-128 < 128∨1114111 < 64*(a-192)+b-128∨(55296≤64*(a-192)+b-128∧64*(a-192)+b-128≤57343))):decodeN n a b c d=(64*(a-192)+b-128,2):=by
 unfold decodeN
 repeat' split
 all_goals first|(exfalso;omega)|exact zal (by omega) (by omega)
theorem fin3_bad (n a b c d:Nat) (k1:224≤a) (k2:a < 240) (hn:3≤n) (cb:128≤b∧b≤191) (cc:128≤c∧c≤191) (h:64*(64*(a-224)+b-128)+c-128 < 2048∨1114111 < 64*(64*(a-224)+b-128)+c-128∨(55296≤64*(64*(a-224)+b-128)+c-128∧64*(64*(a-224)+b-128)+c-128≤57343)):decodeN n a b c d=(65533,1):=by
 unfold decodeN
 repeat' split
 all_goals first|(exfalso;omega)|exact zal (by omega) (by omega)
theorem fin3_good (n a b c d:Nat) (k1:224≤a) (k2:a < 240) (hn:3≤n) (cb:128≤b∧b≤191) (cc:128≤c∧c≤191) (h:¬(64*(64*(a-224)+b-128)+c-128 < 2048∨1114111 < 64*(64*(a-224)+b-128)+c-128∨(55296≤64*(64*(a-224)+b-128)+c-128∧64*(64*(a-224)+b-128)+c-128≤57343))):decodeN n a b c d=(64*(64*(a-224)+b-128)+c-128,3):=by
 unfold decodeN
 repeat' split
 all_goals first|(exfalso;omega)|exact zal (by omega) (by omega)
theorem fin4_bad (n a b c d:Nat) (k1:240≤a) (k2:a < 245) (hn:4≤n) (cb:128≤b∧b≤191) (cc:128≤c∧c≤191) (cd:128≤d∧d≤191) (h:64*(64*(64*(a-240)+b-128)+c-128)+d-128 < 65536∨1114111 < 64*(64*(64*(a-240)+b-128)+c-128)+d-128∨(55296≤64*(64*(64*(a-240)+b-128)+c-128)+d-128∧64*(64*(64*(a-240)+b-128)+c-128)+d-128≤57343)):decodeN n a b c d=(65533,1):=by
 unfold decodeN
 repeat' split
 all_goals first|(exfalso;omega)|exact zal (by omega) (by omega)
theorem fin4_good (n a b c d:Nat) (k1:240≤a) (k2:a < 245) (hn:4≤n) (cb:128≤b∧b≤191) (cc:128≤c∧c≤191) (cd:128≤d∧d≤191) (h:¬(64*(64*(64*(a-240)+b-128)+c-128)+d-128 < 65536∨1114111 < 64*(64*(64*(a-240)+b-128)+c-128)+d-128∨(55296≤64*(64*(64*(a-240)+b-128)+c-128)+d-128∧64*(64*(64*(a-240)+b-128)+c-128)+d-128≤57343))):decodeN n a b c d=(64*(64*(64*(a-240)+b-128)+c-128)+d-128,4):=by
 unfold decodeN
 repeat' split
 all_goals first|(exfalso;omega)|exact zal (by omega) (by omega)
section
variable {t:ByteArray} {a sz base least:Nat}
theorem one_raw (t:ByteArray):y9 t=(if (decodeN t.size (t.get! 0).toNat (t.get! 1).toNat (t.get! 2).toNat (t.get! 3).toNat).1=65533∧(decodeN t.size (t.get! 0).toNat (t.get! 1).toNat (t.get! 2).toNat (t.get! 3).toNat).2=1 then ((t.get! 0).toNat,1,true)
  else ((decodeN t.size (t.get! 0).toNat (t.get! 1).toNat (t.get! 2).toNat (t.get! 3).toNat).1,(decodeN t.size (t.get! 0).toNat (t.get! 1).toNat (t.get! 2).toNat (t.get! 3).toNat).2,false)):=by
 unfold y9 brokenAt;rw[decode_at];simp only[Nat.sub_zero,Nat.zero_add,Bool.and_eq_true,beq_iff_eq]
theorem one_ascii (h:(t.get! 0).toNat < 128):y9 t=((t.get! 0).toNat,1,false):=by
 rw[one_raw]
 have e:decodeN t.size (t.get! 0).toNat (t.get! 1).toNat (t.get! 2).toNat (t.get! 3).toNat=((t.get! 0).toNat,1):=by unfold decodeN;rw[if_pos h]
 rw[e,if_neg (by simp only[];omega)]
theorem qg (h:decodeN t.size (t.get! 0).toNat (t.get! 1).toNat (t.get! 2).toNat (t.get! 3).toNat=(65533,1)):y9 t=((t.get! 0).toNat,1,true):=by
 rw[one_raw,h,if_pos ⟨rfl,rfl⟩]
theorem u9 {v w:Nat} (h:decodeN t.size (t.get! 0).toNat (t.get! 1).toNat (t.get! 2).toNat (t.get! 3).toNat=(v,w)) (hw:w≠1):y9 t=(v,w,false):=by
 rw[one_raw,h,if_neg (by simp only[];omega)]
theorem one_out (h:128≤(t.get! 0).toNat) (h2:(t.get! 0).toNat < 194∨245≤(t.get! 0).toNat):y9 t=((t.get! 0).toNat,1,true):=by
 apply qg;have h0:=(t.get! 0).toNat_lt;generalize (t.get! 0).toNat=a at *;generalize (t.get! 1).toNat=b at *;generalize (t.get! 2).toNat=c at *;generalize (t.get! 3).toNat=d at *;unfold decodeN
 repeat' split
 all_goals first|(exfalso;omega)|exact zal (by omega) (by omega)
theorem zaz (hK:Kd (t.get! 0).toNat sz base least) (h:t.size < sz):y9 t=((t.get! 0).toNat,1,true):=by
 apply qg;generalize (t.get! 0).toNat=a at *;generalize (t.get! 1).toNat=b at *;generalize (t.get! 2).toNat=c at *;generalize (t.get! 3).toNat=d at *;generalize t.size=n at *
 rcases hK with⟨_,_,rfl,rfl,rfl⟩|⟨_,_,rfl,rfl,rfl⟩|⟨_,_,rfl,rfl,rfl⟩
 all_goals
  unfold decodeN
  repeat' split
  all_goals first|(exfalso;omega)|exact zal (by omega) (by omega)
theorem za9 (hK:Kd (t.get! 0).toNat sz base least) (j:Nat) (h1:1≤j) (h2:j < sz) (h3:¬contB (t.get! j).toNat):y9 t=((t.get! 0).toNat,1,true):=by
 apply qg;have hb1:=(t.get! 1).toNat_lt;have hb2:=(t.get! 2).toNat_lt;have hb3:=(t.get! 3).toNat_lt
 have hj:j=1∨j=2∨j=3:=by rcases hK with⟨_,_,rfl,_⟩|⟨_,_,rfl,_⟩|⟨_,_,rfl,_⟩<;>omega
 have h4:(j=1∧¬contB (t.get! 1).toNat)∨(j=2∧¬contB (t.get! 2).toNat)∨(j=3∧¬contB (t.get! 3).toNat):=by
  rcases hj with hj|hj|hj
  ·subst hj;exact .inl ⟨rfl,h3⟩
  ·subst hj;exact .inr (.inl ⟨rfl,h3⟩)
  ·subst hj;exact .inr (.inr ⟨rfl,h3⟩)
 clear h3 hj;unfold contB at h4;generalize t.size=n at *;generalize (t.get! 0).toNat=a at *;generalize (t.get! 1).toNat=b at *;generalize (t.get! 2).toNat=c at *;generalize (t.get! 3).toNat=d at *
 rcases hK with⟨_,_,rfl,rfl,rfl⟩|⟨_,_,rfl,rfl,rfl⟩|⟨_,_,rfl,rfl,rfl⟩
 all_goals
  unfold decodeN
  repeat' split
  all_goals first|(exfalso;omega)|exact zal (by omega) (by omega)
theorem one_fin (hK:Kd (t.get! 0).toNat sz base least) (hn:sz≤t.size) (hc:∀j,1≤j→j < sz→contB (t.get! j).toNat) :
  (accV t base sz < least∨1114111 < accV t base sz∨(55296≤accV t base sz∧accV t base sz≤57343)→y9 t=((t.get! 0).toNat,1,true))∧
  (¬(accV t base sz < least∨1114111 < accV t base sz∨(55296≤accV t base sz∧accV t base sz≤57343))→y9 t=(accV t base sz,sz,false)):=by
 rcases hK with⟨k1,k2,rfl,rfl,rfl⟩|⟨k1,k2,rfl,rfl,rfl⟩|⟨k1,k2,rfl,rfl,rfl⟩
 ·have c1:=hc 1 (by omega) (by omega)
  exact⟨fun h=>qg (fin2_bad _ _ _ _ _ k1 k2 hn c1 h),fun h=>u9 (fin2_good _ _ _ _ _ k1 k2 hn c1 h) (by omega)⟩
 ·have c1:=hc 1 (by omega) (by omega)
  have c2:=hc 2 (by omega) (by omega);exact⟨fun h=>qg (fin3_bad _ _ _ _ _ k1 k2 hn c1 c2 h),fun h=>u9 (fin3_good _ _ _ _ _ k1 k2 hn c1 c2 h) (by omega)⟩
 ·have c1:=hc 1 (by omega) (by omega)
  have c2:=hc 2 (by omega) (by omega);have c3:=hc 3 (by omega) (by omega);exact⟨fun h=>qg (fin4_bad _ _ _ _ _ k1 k2 hn c1 c2 c3 h),fun h=>u9 (fin4_good _ _ _ _ _ k1 k2 hn c1 c2 c3 h) (by omega)⟩
end
end

section

end
end Go.Proofs.YtnjnooeldkideaaGreatDoor
