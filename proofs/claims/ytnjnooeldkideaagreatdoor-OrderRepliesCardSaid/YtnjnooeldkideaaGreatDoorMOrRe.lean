/- order: Reply. order: a call's entry. -/
import Derived.Test.YtnjnooeldkideaaGreatDoorMOrIo
import Derived.OwnWalk
import Derived.Deep.DeepCutAuto
namespace Go.Proofs.YtnjnooeldkideaaGreatDoor
set_option maxRecDepth 100000
set_option maxHeartbeats 8000000
section
set_option linter.unusedVariables false
set_option linter.unusedSimpArgs false
open Go.RowKit Go.Lib Go.Deep
section
variable {W w:World} {J:Nat→Option Obj} {t:Tb} {F:List (Nat × Obj)}
variable {m:Md} {gm n c:Nat} {A:Option Addr} {ns:List ByteArray} {Ln:List (Nat × Obj)}
def zRy:Ry:=⟨0,0,0,0,0,zTb⟩
def zbl (m:Md) (ns:List ByteArray) (q:Cl) (x:Int):Ry × Bool:=if y3 q=true then ((storedA m (askA m ns q) x).1.rep,(storedA m (askA m ns q) x).2) else (zRy,false)
theorem km (w:World):(Instr.build 52 #[]).run Tryz.prog w=.ok (.agg zRy.cells) w:=run_build w _ _ _ (by kernel_rfl)
theorem zry:Tryz.zeroCells52.size=80:=by kernel_rfl
theorem ky (q:Cl):(Tryz.prog.info? 50).map (·.size)=some q.cells.size:=by rw[Cl.size];kernel_rfl
theorem An.rep_range {v:World} {X:List (Nat × Obj)} {g:Nat} {a:An} {x:Value} (ok:a.rep.t.Ok) (hv:St W v J X) (hm:(g,Obj.cells (a.cells x) 96 (0,0))∈X):v.rangeAt g 0 a.rep.cells.toList:=fun j u hj=>by
 have hl:j < 80:=by have:=(List.getElem?_eq_some_iff.1 hj).1;rw[Array.length_toList,Ry.size ok]at this;exact this
 rw[Nat.zero_add,hv.cell hm j,An.g0 ok x j hl];simpa using hj
theorem o_reply (tb:Go.Proofs.YtnjnooeldkideaaGreatDoor.TB W J) (mo:MOk J m ns A n c Ln) (q:Cl) (qok:q.Ok) (hs:q.name.size≤1000000) (x:Int) (hx0:-9223372036854775808≤x) (hx1:x≤9223372036854775807) (hLn:∀p∈Ln,p∈F) (h:St W w J F) (hm:(gm,Obj.cells (m.cells (.slice A n c)) 88 (0,0))∈F) :
  Calls Tryz.prog 19 #[.pointer (some ⟨gm,0,none⟩),q.val,.int .i64 x] w fun e w'=>e=.returned (.tuple #[.agg (zbl m ns q x).1.cells,.bool (zbl m ns q x).2])∧St W w' J F:=by
 have h1:=(h.alloc (.cells q.cells 50)).alloc (.cells Tryz.zeroCells52 52);obtain⟨g,hg⟩:∃g,w.heap.size=g:=⟨_,rfl⟩;rw[World.size_alloc,hg]at h1
 have kr:=fun(v:World) (X:List (Nat × Obj)) (hv:St W v J X)=>call_right tb q qok hv
 have ka:=fun(v:World) (X:List (Nat × Obj)) (hv:St W v J X) (hF:∀p∈Ln,p∈X) (hx:(gm,Obj.cells (m.cells (.slice A n c)) 88 (0,0))∈X)=>o_ask tb mo q hs hF hv hx
 have ag:=zbn mo q qok;have sg:=uv mo.ok mo.b0 mo.b1 ag x hx0 hx1
 have ks:=fun(A':Option Addr) (c':Nat) (L':List (Nat × Obj)) (hr:Row 147 40 (.slice A' (askA m ns q).l.length c') (askA m ns q).l.length (cgs (askA m ns q).l) L') (v:World) (X:List (Nat × Obj)) (hv:St W v J (L'++X)) (hx:(gm,Obj.cells (m.cells (.slice A n c)) 88 (0,0))∈X)=>o_stored mo.ok x ag.rep.t hr rfl hv hx
 have rq:∀(v:World) (X:List (Nat × Obj)),St W v J X→(g,Obj.cells q.cells 50 (0,0))∈X→v.rangeAt g 0 q.cells.toList:=fun v X hv hx j u hj=>by rw[Nat.zero_add,hv.cell hx j];simpa using hj
 have qi:=ky q;unfold zbl;unfold OPost at ka;unfold TPost at ks;unfold Cl.val at *;obtain⟨rt,hrt⟩:∃b,y3 q=b:=⟨_,rfl⟩;generalize storedA m (askA m ns q) x=R at *;generalize askA m ns q=a at *;rw[hrt]at kr ⊢;obtain⟨cc,hcc⟩:∃y,q.cells=y:=⟨_,rfl⟩;rw[hcc]at h1 kr ka rq qi ⊢;have H1:=za h1;have KR:=za kr;have RQ:=za (rq _ _ h1 (by simp));have QI:=za qi;have RQX:=za rq
 cases rt with
 | false=>
  have rsz:=Ry.size (r:=zRy) zt;have rai:=yu (r:=zRy) zt;have rao:=Ry.one zRy;have bz:=km;simp only[Bool.false_eq_true,if_false];obtain⟨Q,hQ⟩:∃Q,zRy.cells=Q:=⟨_,rfl⟩;rw[hQ]at rsz rai rao bz ⊢
  have rfit:0+Q.size≤Tryz.zeroCells52.size:=by rw[rsz,zry];omega
  have rmany:zg Tryz.zeroCells52 0 Q.toList=Q:=by rw[zd _ _ (by rw[Array.length_toList,rsz,zry]),Array.toArray_toList]
  have RAI:=za rai;have RAO:=za rao;have RFIT:=za rfit;have RMANY:=za rmany;have HBZ:=za bz;clear rai rao rfit rmany bz hQ rsz h1 h kr ka ks rq qi hcc hrt ag sg hm hLn mo tb qok hs
  go_enter Tryz.func19,Tryz.ntmps19
  go_wp2_with (with_reducible refine zb 10 rfl (by kernel_rfl) 50 (.tmp 4) rfl g 0 rfl cc _ RQ.out Tryz.underlying50 rfl QI.out ?_)
  refine(KR.out _ _ H1.out).mono ?_;rintro e w2 ⟨rfl,h2⟩;have H2:=za h2;clear h2 H1 KR RQ
  go_wp2_with (first|(with_reducible refine zh rfl 52 _ rfl _ ?_ (HBZ.out _) ?_;·go_simp)|(with_reducible refine zc rfl 52 (.tmp 6) (.tmp 13) rfl (g:=g+1) (off:=0) Q rfl rfl H2.out RFIT.out RAI.out RAO.out ?_;intro w4 h4;refine Hid.out ?_))
  refine za ?_;rw[RMANY.out]at h4;have HZ:=za h4;clear h4 H2;go_wp2_with fail;refine bodyPost_ret (zr rfl _ _ (g+1) 52 Q (0,0) _ _ rfl rfl (HZ.out.own (g+1,.cells Q 52 (0,0)) (List.mem_cons_self ..)) Tryz.underlying52 (by kernel_rfl) RAI.out) rfl ?_;exact⟨rfl,HZ.out.weaken (A:=[_,_])⟩
 | true=>
  have hmx:(gm,Obj.cells (m.cells (.slice A n c)) 88 (0,0))∈(g+1,Obj.cells Tryz.zeroCells52 52 (0,0))::(g,.cells cc 50 (0,0))::F:=List.mem_cons_of_mem _ (List.mem_cons_of_mem _ hm)
  have hlx:∀p∈Ln,p∈(g+1,Obj.cells Tryz.zeroCells52 52 (0,0))::(g,.cells cc 50 (0,0))::F:=fun p hp=>List.mem_cons_of_mem _ (List.mem_cons_of_mem _ (hLn p hp))
  have HMX:=za hmx;have HLX:=za hlx;have KA:=za ka;have KS:=za ks;have SG:=za sg;clear h1 h kr ka ks rq qi hcc hrt ag sg hm hLn mo tb qok hs hmx hlx;simp only[if_true];obtain⟨Y,hY⟩:∃Q,R.1.rep.cells=Q:=⟨_,rfl⟩;obtain⟨ob,hob⟩:∃b,R.2=b:=⟨_,rfl⟩;rw[hY,hob];have HY:=za hY;have HOB:=za hob;clear hY hob
  go_enter Tryz.func19,Tryz.ntmps19
  go_wp2_with (with_reducible refine zb 10 rfl (by kernel_rfl) 50 (.tmp 4) rfl g 0 rfl cc _ RQ.out Tryz.underlying50 rfl QI.out ?_)
  refine(KR.out _ _ H1.out).mono ?_;rintro e w2 ⟨rfl,h2⟩;have RQ2:=za (RQX.out _ _ h2 (by simp));have KA2:=za (KA.out _ _ h2 HLX.out HMX.out);clear h2 H1 KR RQ KA
  go_wp2_with (with_reducible refine zb 17 rfl (by kernel_rfl) 50 (.tmp 4) rfl g 0 rfl cc _ RQ2.out Tryz.underlying50 rfl QI.out ?_)
  refine KA2.out.mono ?_;rintro e w3 ⟨A1,c1,L1,rfl,hr1,h3⟩;have KS2:=za (KS.out A1 c1 L1 hr1 _ _ h3 HMX.out);clear h3 KA2 RQ2;go_wp2_with fail;refine KS2.out.mono ?_;rintro e w4 ⟨A2,c2,L2,rfl,hr2,h4⟩;have h5:=(h4.perm (L':=(g+1,.cells Tryz.zeroCells52 52 (0,0))::(g,.cells cc 50 (0,0))::(L2++F)) ze).alloc (.cells Tryz.zeroCells96 96);have rsz:=An.size (a:=R.1) SG.out.rep.t (.slice A2 R.1.l.length c2);have rai:=yv (a:=R.1) SG.out.rep.t (.slice A2 R.1.l.length c2);have rao:=An.one R.1 (v:=.slice A2 R.1.l.length c2) rfl;have ysz:=Ry.size (r:=R.1.rep) SG.out.rep.t;have yai:=yu (r:=R.1.rep) SG.out.rep.t;have yao:=Ry.one R.1.rep
  have rr:=fun(v:World) (X:List (Nat × Obj)) (b:Nat) (hv:St W v J X) (hm:(b,Obj.cells (R.1.cells (.slice A2 R.1.l.length c2)) 96 (0,0))∈X)=>An.rep_range SG.out.rep.t hv hm
  obtain⟨Q,hQ⟩:∃Q,R.1.cells (.slice A2 R.1.l.length c2)=Q:=⟨_,rfl⟩;rw[hQ]at rsz rai rao rr ⊢;rw[HY.out]at ysz yai yao rr;rw[HOB.out]
  have rfit:0+Q.size≤Tryz.zeroCells96.size:=by rw[rsz,zan];omega
  have rmany:zg Tryz.zeroCells96 0 Q.toList=Q:=by rw[zd _ _ (by rw[Array.length_toList,rsz,zan]),Array.toArray_toList]
  have yfit:0+Y.size≤Tryz.zeroCells52.size:=by rw[ysz,zry];omega
  have ymany:zg Tryz.zeroCells52 0 Y.toList=Y:=by rw[zd _ _ (by rw[Array.length_toList,ysz,zry]),Array.toArray_toList]
  have RAI:=za rai;have RAO:=za rao;have RFIT:=za rfit;have RMANY:=za rmany;have YAI:=za yai;have YAO:=za yao;have YFIT:=za yfit;have YMANY:=za ymany;have RR:=za rr;have H5:=za h5;clear rai rao rfit rmany yai yao yfit ymany rr hQ rsz ysz h4 h5 hr2 KS2 KS SG
  go_wp2_with (with_reducible refine zc rfl 96 (.tmp 8) (.tmp 21) rfl (g:=w4.heap.size) (off:=0) Q rfl rfl H5.out RFIT.out RAI.out RAO.out ?_;intro w5 h5;refine Hid.out ?_)
  refine za ?_;rw[RMANY.out]at h5;obtain⟨g5,hg5⟩:∃y,w4.heap.size=y:=⟨_,rfl⟩;rw[hg5]at h5 ⊢;have R6:=za (RR.out _ _ g5 h5 (List.mem_cons_self ..));have h6:=h5.perm (L':=(g+1,.cells Tryz.zeroCells52 52 (0,0))::(g5,.cells Q 96 (0,0))::(g,.cells cc 50 (0,0))::(L2++F)) ze;have H6:=za h6;clear h5 h6 H5 hg5
  go_wp2_with (first|(with_reducible refine zb 24 rfl (by kernel_rfl) 52 (.tmp 23) rfl g5 0 rfl Y _ R6.out Tryz.underlying52 rfl YAI.out ?_)|(with_reducible refine zc rfl 52 (.tmp 6) (.tmp 24) rfl (g:=g+1) (off:=0) Y rfl rfl H6.out YFIT.out YAI.out YAO.out ?_;intro w8 h8;refine Hid.out ?_))
  refine za ?_;rw[YMANY.out]at h8;have HZ:=za h8;clear h8 H6 R6;go_wp2_with fail;refine bodyPost_ret (zr rfl _ _ (g+1) 52 Y (0,0) _ _ rfl rfl (HZ.out.own (g+1,.cells Y 52 (0,0)) (List.mem_cons_self ..)) Tryz.underlying52 (by kernel_rfl) YAI.out) rfl ?_;exact⟨rfl,HZ.out.keep ((g+1,.cells Y 52 (0,0))::(g5,.cells Q 96 (0,0))::(g,.cells cc 50 (0,0))::L2) (fun i a=>by simp only[List.count_append,List.count_cons];omega)⟩
end
end

section
set_option linter.unusedVariables false
set_option linter.unusedSimpArgs false
open Go.RowKit Go.Lib Go.Deep
section
variable {W w:World} {J:Nat→Option Obj} {t:Tb} {F:List (Nat × Obj)}
def bareE (e:En):En:=⟨e.kind,e.serial,e.call,e.rep,e.store,0,0,zS⟩
theorem run_build_bare (e:En) (ok:e.Ok) (w:World):(Instr.build 54 #[(0,.int .i64 e.kind),(1,.int .i64 e.serial),(2,.agg e.call.cells),(3,.agg e.rep.cells),(4,.int .i64 e.store)]).run Tryz.prog w=.ok (.agg (bareE e).cells) w:=by
 obtain⟨ki,se,ca,⟨re,rj,rs,rl,rf,⟨⟨st,tr,ver,sz,ds⟩,⟨st',tr',ver',sz',ds'⟩,ac,bo,fl⟩⟩,so,sa,fa,sl⟩:=e;have h0:=ok.rep.t.s0.dig;have h1:=ok.rep.t.s1.dig;simp only at h0 h1;obtain⟨d0,d1,d2,d3,d4,d5,d6,d7,d8,d9,d10,d11,d12,d13,d14,d15,d16,d17,d18,d19,d20,d21,d22,d23,d24,d25,d26,d27,d28,d29,d30,d31,rfl⟩:=jv ds h0;obtain⟨e0,e1,e2,e3,e4,e5,e6,e7,e8,e9,e10,e11,e12,e13,e14,e15,e16,e17,e18,e19,e20,e21,e22,e23,e24,e25,e26,e27,e28,e29,e30,e31,rfl⟩:=jv ds' h1;exact run_build w _ _ _ (by kernel_rfl)
theorem bareE_ok {e:En} (ok:e.Ok):(bareE e).Ok:=⟨ok.k0,ok.k1,ok.s0,ok.s1,ok.call,ok.rep,ok.o0,ok.o1,by show -9223372036854775808≤0;decide,by show 0≤9223372036854775807;decide,by show -9223372036854775808≤0;decide,by show 0≤9223372036854775807;decide,zS_ok⟩
theorem zent:Tryz.zeroCells54.size=126:=by kernel_rfl
theorem En.one (e:En):e.cells.all (·.oneCell')=true:=by
 have h0:e.rep.cells.toList.all (·.oneCell')=true:=by have h:=e.rep.one;rw[←Array.all_toList]at h;exact h
 have h1:e.slot.cells.toList.all (·.oneCell')=true:=by rw[←e.slot.one];simp
 unfold En.cells;rw[List.all_toArray,List.all_append,List.all_append,List.all_append,List.all_append,h0,h1]
 rfl
theorem En.gc (e:En) (j:Nat) (hj:j < 5):e.cells[2+j]?=e.call.cells[j]?:=by
 have h3:=Cl.size e.call;unfold En.cells;rw[List.getElem?_toArray,List.getElem?_append_right (by simp),List.getElem?_append_left (by simp;omega)]
 simp
theorem En.gr {e:En} (ok:e.Ok) (j:Nat) (hj:j < 80):e.cells[7+j]?=e.rep.cells[j]?:=by
 have h3:=Cl.size e.call;have h:=Ry.size ok.rep.t;unfold En.cells;rw[List.getElem?_toArray,List.getElem?_append_right (by simp;omega),List.getElem?_append_right (by simp;omega),List.getElem?_append_left (by simp;omega)];simp only[List.length_cons,List.length_nil,Array.length_toList,h3];rw[show 7+j-(0+1+1)-5=j by omega]
 simp
theorem En.gt {e:En} (ok:e.Ok) (j:Nat):e.cells[87+j]?=([Value.int .i64 e.store,.int .i64 e.state,.int .i64 e.fault]++e.slot.cells.toList)[j]?:=by
 have h3:=Cl.size e.call;have h:=Ry.size ok.rep.t;unfold En.cells;rw[List.getElem?_toArray,List.getElem?_append_right (by simp;omega),List.getElem?_append_right (by simp;omega),List.getElem?_append_right (by simp;omega)]
 congr 1
 simp[h,h3];omega
structure EnAt (v:World) (g:Nat) (e:En):Prop where
 kind:v.cell? ⟨g,0,none⟩=some (.int .i64 e.kind)
 serial:v.cell? ⟨g,1,none⟩=some (.int .i64 e.serial)
 call:v.rangeAt g 2 e.call.cells.toList
 rep:v.rangeAt g 7 e.rep.cells.toList
 store:v.cell? ⟨g,87,none⟩=some (.int .i64 e.store)
 state:v.cell? ⟨g,88,none⟩=some (.int .i64 e.state)
 fault:v.cell? ⟨g,89,none⟩=some (.int .i64 e.fault)
 slot:v.rangeAt g 90 e.slot.cells.toList
 all:v.rangeAt g 0 e.cells.toList
theorem St.en {v:World} {X:List (Nat × Obj)} {g:Nat} {e:En} {T:TypeId} {fr:Nat × Nat} (ok:e.Ok) (h:St W v J X) (hm:(g,Obj.cells e.cells T fr)∈X):EnAt v g e:=by
 have h3:=Cl.size e.call;have h4:=Ry.size ok.rep.t;have h5:=ok.slot.len;refine⟨h.cell hm 0,h.cell hm 1,?_,?_,(h.cell hm 87).trans (En.gt ok 0),(h.cell hm 88).trans (En.gt ok 1),(h.cell hm 89).trans (En.gt ok 2),?_,?_⟩
 ·intro j u hj
  have hl:j < 5:=by have:=(List.getElem?_eq_some_iff.1 hj).1;rw[Array.length_toList,h3]at this;exact this
  rw[h.cell hm (2+j),En.gc e j hl];simpa using hj
 ·intro j u hj
  have hl:j < 80:=by have:=(List.getElem?_eq_some_iff.1 hj).1;rw[Array.length_toList,h4]at this;exact this
  rw[h.cell hm (7+j),En.gr ok j hl];simpa using hj
 ·intro j u hj
  have hl:j < 36:=by have:=(List.getElem?_eq_some_iff.1 hj).1;rw[Array.length_toList,h5]at this;exact this
  have e:=(h.cell hm (87+(3+j))).trans (En.gt ok (3+j));rw[show 87+(3+j)=90+j by omega,List.getElem?_append_right (by simp)]at e;rw[e,←hj]
  congr 1
  simp
 ·intro j u hj
  rw[Nat.zero_add,h.cell hm j];simpa using hj
theorem bval_inj {a b:UInt8} (h:bval a=bval b):a=b:=by
 unfold bval at h
 injection h with h1 h2
 apply UInt8.toNat_inj.1
 omega
theorem Slt.inj {s s':Slt} (h:s.cells=s'.cells):s=s':=by
 have h2:s.cells.toList=s'.cells.toList:=by rw[h]
 obtain⟨st,tr,ver,sz,ds⟩:=s;obtain⟨st',tr',ver',sz',ds'⟩:=s';simp only[Slt.cells,List.cons_append,List.nil_append,List.cons.injEq,Value.int.injEq,true_and]at h2;obtain⟨rfl,rfl,rfl,rfl,h5⟩:=h2;have:ds=ds':=(List.map_inj_right (fun a b hab=>bval_inj hab)).1 h5;rw[this]
theorem toList_eq {a b:Array Value} (h:a.toList=b.toList):a=b:=Array.toList_inj.1 h
theorem Tb.inj {t u:Tb} (okt:t.Ok) (oku:u.Ok) (h:t.cells=u.cells):t=u:=by
 have h2:t.cells.toList=u.cells.toList:=by rw[h]
 have l0:=okt.s0.len;have l1:=okt.s1.len;have k0:=oku.s0.len;have k1:=oku.s1.len;unfold Tb.cells at h2;obtain⟨e0,h3⟩:=List.append_inj h2 (by simp[l0,k0]);obtain⟨e1,h4⟩:=List.append_inj h3 (by simp[l1,k1]);have q0:=Slt.inj (toList_eq e0);have q1:=Slt.inj (toList_eq e1);obtain⟨s0,s1,a,b,f⟩:=t;obtain⟨s0',s1',a',b',f'⟩:=u;simp only[List.cons.injEq,Value.int.injEq,true_and,and_true]at h4 q0 q1;obtain⟨rfl,rfl,rfl⟩:=h4;subst q0 q1
 rfl
theorem Ry.inj {r u:Ry} (okr:r.Ok) (oku:u.Ok) (h:r.cells=u.cells):r=u:=by
 have h2:r.cells.toList=u.cells.toList:=by rw[h]
 unfold Ry.cells at h2;obtain⟨e0,h3⟩:=List.append_inj h2 rfl;have q0:=Tb.inj okr.t oku.t (toList_eq h3);obtain⟨a,b,c,d,e,t⟩:=r;obtain⟨a',b',c',d',e',t'⟩:=u;simp only[List.cons.injEq,Value.int.injEq,true_and,and_true]at e0 q0;obtain⟨rfl,rfl,rfl,rfl,rfl⟩:=e0;subst q0
 rfl
theorem Cl.inj {c d:Cl} (h:c.cells=d.cells):c=d:=by
 have h2:c.cells.toList=d.cells.toList:=by rw[h]
 obtain⟨a,b,x,y,n⟩:=c;obtain⟨a',b',x',y',n'⟩:=d;simp only[Cl.cells,List.cons.injEq,Value.int.injEq,Value.string.injEq,true_and,and_true]at h2;obtain⟨rfl,rfl,rfl,rfl,rfl⟩:=h2
 rfl
theorem En.inj {e f:En} (oke:e.Ok) (okf:f.Ok) (h:e.cells=f.cells):e=f:=by
 have h2:e.cells.toList=f.cells.toList:=by rw[h]
 have l1:=Cl.size e.call;have k1:=Cl.size f.call;have l2:=Ry.size oke.rep.t;have k2:=Ry.size okf.rep.t;unfold En.cells at h2;obtain⟨e0,h3⟩:=List.append_inj h2 rfl;obtain⟨e1,h4⟩:=List.append_inj h3 (by simp[l1,k1]);obtain⟨e2,h5⟩:=List.append_inj h4 (by simp[l2,k2]);obtain⟨e3,e4⟩:=List.append_inj h5 rfl;have q1:=Cl.inj (toList_eq e1);have q2:=Ry.inj oke.rep okf.rep (toList_eq e2);have q3:=Slt.inj (toList_eq e4);obtain⟨a,b,c,d,x,y,z,s⟩:=e;obtain⟨a',b',c',d',x',y',z',s'⟩:=f;simp only[List.cons.injEq,Value.int.injEq,true_and,and_true]at e0 e3 q1 q2 q3;obtain⟨rfl,rfl⟩:=e0;obtain⟨rfl,rfl,rfl⟩:=e3;subst q1 q2 q3
 rfl
def eqS (a b:Slt):Bool:=a.st==b.st&&(a.tr==b.tr&&(a.ver==b.ver&&(a.sz==b.sz&&a.dig==b.dig)))
theorem za4 (a b:Slt):eqS a b=true↔a=b:=by
 obtain⟨st,tr,ver,sz,ds⟩:=a;obtain⟨st',tr',ver',sz',ds'⟩:=b
 simp[eqS]
def eqT (a b:Tb):Bool:=eqS a.s0 b.s0&&(eqS a.s1 b.s1&&(a.act==b.act&&(a.boo==b.boo&&a.flo==b.flo)))
theorem eqT_iff (a b:Tb):eqT a b=true↔a=b:=by
 obtain⟨st,tr,ver,sz,ds⟩:=a;obtain⟨st',tr',ver',sz',ds'⟩:=b
 simp[eqT,za4]
def eqRy (a b:Ry):Bool:=a.err==b.err&&(a.job==b.job&&(a.state==b.state&&(a.slot==b.slot&&(a.fault==b.fault&&eqT a.t b.t))))
theorem zao (a b:Ry):eqRy a b=true↔a=b:=by
 obtain⟨st,tr,ver,sz,ds,t⟩:=a;obtain⟨st',tr',ver',sz',ds',t'⟩:=b
 simp[eqRy,eqT_iff]
def eqEn (a b:En):Bool:=a.kind==b.kind&&(a.serial==b.serial&&(eqC a.call b.call&&(eqRy a.rep b.rep&&(a.store==b.store&&(a.state==b.state&&(a.fault==b.fault&&eqS a.slot b.slot))))))
theorem za5 (a b:En):eqEn a b=true↔a=b:=by
 obtain⟨c1,c2,c3,c4,c5,c6,c7,c8⟩:=a;obtain⟨d1,d2,d3,d4,d5,d6,d7,d8⟩:=b
 simp[eqEn,za4,zao,eqC_iff]
theorem run_eq_en (x y:En) (okx:x.Ok) (oky:y.Ok) (w:World):(Op.equalIn 10000 54 (.agg x.cells) (.agg y.cells)).run Tryz.prog w=.ok (eqEn x y) w:=by
 obtain⟨r,h1,h2⟩:=eq_entry x y okx oky w;rw[h1]
 have hb:r=eqEn x y:=by
  rw[Bool.eq_iff_iff,za5,h2];exact⟨fun h=>En.inj okx oky h,fun h=>by rw[h]⟩
 rw[hb]
theorem qn (x y:Ry) (okx:x.Ok) (oky:y.Ok) (w:World):(Op.equalIn 10000 52 (.agg x.cells) (.agg y.cells)).run Tryz.prog w=.ok (eqRy x y) w:=by
 obtain⟨r,h1,h2⟩:=eq_ry x y okx oky w;rw[h1]
 have hb:r=eqRy x y:=by
  rw[Bool.eq_iff_iff,zao,h2];exact⟨fun h=>Ry.inj okx oky h,fun h=>by rw[h]⟩
 rw[hb]
def calledM (m:Md) (ns:List ByteArray) (e:En):Option Md:=
 if eqEn e (bareE e)=true∧y3 e.call=true then
  (if (storedA m (askA m ns e.call) e.store).2=true∧eqRy (storedA m (askA m ns e.call) e.store).1.rep e.rep=true then
   (if (zv m.known (storedA m (askA m ns e.call) e.store).1.l).2=0 then some ⟨(zv m.known (storedA m (askA m ns e.call) e.store).1.l).1,m.tries,(storedA m (askA m ns e.call) e.store).1.job,(storedA m (askA m ns e.call) e.store).1.began⟩ else none) else none) else none
end
end
end Go.Proofs.YtnjnooeldkideaaGreatDoor
