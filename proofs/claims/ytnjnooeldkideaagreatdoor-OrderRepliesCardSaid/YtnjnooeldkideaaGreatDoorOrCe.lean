/- order: a call's entry: the walk. -/
import Derived.Test.YtnjnooeldkideaaGreatDoorMOrRe
import Derived.OwnWalk
import Derived.Deep.DeepCutAuto
import Derived.Test.YtnjnooeldkideaaGreatDoorMOrT
namespace Go.Proofs.YtnjnooeldkideaaGreatDoor
set_option maxRecDepth 100000
set_option maxHeartbeats 8000000
set_option linter.unusedVariables false
set_option linter.unusedSimpArgs false
open Go.RowKit Go.Lib Go.Deep
section
variable {W w:World} {J:Nat→Option Obj} {t:Tb} {F:List (Nat × Obj)}
variable {m:Md} {gm n c:Nat} {A:Option Addr} {ns:List ByteArray} {Ln:List (Nat × Obj)}
theorem Md.put_known {m:Md} (ok:m.known.Ok) (v:Value) (t:Tb) (tok:t.Ok):zg (m.cells v) 0 t.cells.toList=({ m with known:=t }:Md).cells v:=
 yb [] m.known.cells.toList t.cells.toList ([v,Value.int .i64 m.tries]++(m.job.list++[Value.int .i64 m.began])) (by rw[Array.length_toList,Array.length_toList,Tb.size ok,Tb.size tok])
theorem Md.put_job {m:Md} (ok:m.known.Ok) (v:Value) (j:Jb):zg (m.cells v) 77 j.list=({ m with job:=j }:Md).cells v:=by
 have h:=Tb.size ok;have e:=yb (m.known.cells.toList++[v,Value.int .i64 m.tries]) m.job.list j.list [.int .i64 m.began] rfl
 have hl:(m.known.cells.toList++[v,Value.int .i64 m.tries]).length=77:=by simp[h]
 rw[hl]at e;simp only[List.append_assoc]at e;exact e
theorem Md.put_began {m:Md} (ok:m.known.Ok) (v:Value) (b:Int):zg (m.cells v) 83 [.int .i64 b]=({ m with began:=b }:Md).cells v:=by
 have h:=Tb.size ok;have e:=yb (m.known.cells.toList++([v,Value.int .i64 m.tries]++m.job.list)) [.int .i64 m.began] [.int .i64 b] [] rfl
 have hl:(m.known.cells.toList++([v,Value.int .i64 m.tries]++m.job.list)).length=83:=by simp[h,Jb.list]
 rw[hl]at e;simp only[List.append_assoc,List.append_nil]at e;exact e
theorem Md.put_three {m:Md} (ok:m.known.Ok) (v:Value) (t:Tb) (tok:t.Ok) (j:Jb) (b:Int):zg (zg (zg (m.cells v) 0 t.cells.toList) 77 j.list) 83 [.int .i64 b]=(⟨t,m.tries,j,b⟩:Md).cells v:=by
 rw[Md.put_known ok v t tok,Md.put_job (m:={ m with known:=t }) tok,Md.put_began (m:={ ({ m with known:=t }:Md) with job:=j }) tok]
theorem u0:∀{t:Tb} {cs:List Cg} {u:Tb},t.Ok→(∀c∈cs,FormC c)→yl t cs=some u→u.Ok
 | t,[],u,ok,_,h=>by
  unfold yl at h
  injection h with h
  rw[←h];exact ok
 | t,c::cs,u,ok,hf,h=>by
  have hc:=hf c (List.mem_cons_self ..)
  have hr:=fun x hx=>hf x (List.mem_cons_of_mem _ hx)
  unfold yl at h
  cases hc with
  | set i s h0 h1 sok=>
   simp only[setC]at h;exact u0 (t:=t.put i s) (by unfold Tb.put;split;exact⟨sok,ok.s1,ok.a0,ok.a1,ok.b0,ok.b1,ok.f0,ok.f1⟩;exact⟨ok.s0,sok,ok.a0,ok.a1,ok.b0,ok.b1,ok.f0,ok.f1⟩) hr h
  | act i h0 h1=>
   simp only[actC]at h;exact u0 (t:={ t with act:=i }) ⟨ok.s0,ok.s1,h0,h1,ok.b0,ok.b1,ok.f0,ok.f1⟩ hr h
  | boo i h0 h1=>
   simp only[booC]at h;exact u0 (t:={ t with boo:=i }) ⟨ok.s0,ok.s1,ok.a0,ok.a1,h0,h1,ok.f0,ok.f1⟩ hr h
  | flo i h0 h1=>
   simp only[floC]at h
   by_cases hi:i < t.flo
   ·simp[hi]at h
   ·simp[hi]at h
    exact u0 (t:={ t with flo:=i }) ⟨ok.s0,ok.s1,ok.a0,ok.a1,ok.b0,ok.b1,h0,h1⟩ hr h
theorem qa {t:Tb} {cs:List Cg} (ok:t.Ok) (hf:∀c∈cs,FormC c):(zv t cs).1.Ok:=by
 unfold zv
 split
 ·split
  ·rename_i u hu
   exact u0 ok hf hu
  ·exact zt
 ·exact zt
theorem An.job_range {v:World} {X:List (Nat × Obj)} {g:Nat} {a:An} {x:Value} (ok:a.rep.t.Ok) (hv:St W v J X) (hm:(g,Obj.cells (a.cells x) 96 (0,0))∈X):v.rangeAt g 82 a.job.list:=fun j u hj=>by
 have hl:j < 6:=by have:=(List.getElem?_eq_some_iff.1 hj).1;simpa[Jb.list] using this
 have hd:=(hv.cell hm (80+(2+j))).trans (An.g80 ok x (2+j));rw[show 80+(2+j)=82+j by omega,List.getElem?_append_right (by simp),List.getElem?_append_left (by simp[Jb.list];omega)]at hd;rw[hd,←hj]
 congr 1
 simp
theorem md_info {m:Md} (ok:m.known.Ok) (v:Value):(Tryz.prog.info? 88).map (·.size)=some (m.cells v).size:=by rw[Md.size ok];kernel_rfl
theorem o_called (tb:Go.Proofs.YtnjnooeldkideaaGreatDoor.TB W J) (mo:MOk J m ns A n c Ln) (e:En) (eok:e.Ok) (hs:e.call.name.size≤1000000) (hLn:∀p∈Ln,p∈F) (h:St W w J ((gm,.cells (m.cells (.slice A n c)) 88 (0,0))::F)) :
  Calls Tryz.prog 36 #[.pointer (some ⟨gm,0,none⟩),e.val] w fun e' w'=>e'=.returned (.bool (calledM m ns e).isSome)∧St W w' J ((gm,.cells (((calledM m ns e).getD m).cells (.slice A n c)) 88 (0,0))::F):=by
 have bok:=bareE_ok eok;have h1:=h.alloc (.cells e.cells 54);obtain⟨g,hg⟩:∃g,w.heap.size=g:=⟨_,rfl⟩;rw[hg]at h1;have ea:=h1.en eok (List.mem_cons_self ..);have h1':=(h1.alloc (.cells Tryz.zeroCells54 54));rw[World.size_alloc,hg]at h1';have e0:=ea.kind;have e1:=ea.serial;have e87:=ea.store;have er2:=ea.call;have er7:=ea.rep;have er0:=ea.all;have bz:=run_build_bare e eok;have bsz:=En.size bok;have bai:=qk bok;have bao:=En.one (bareE e);have esz:=En.size eok;have eai:=qk eok;have qi:=ky e.call;have yi:=yu eok.rep.t;have heq:=run_eq_en e (bareE e) eok bok
 have kr:=fun(v:World) (X:List (Nat × Obj)) (hv:St W v J X)=>call_right tb e.call eok.call hv
 have ka:=fun(v:World) (X:List (Nat × Obj)) (hv:St W v J X) (hF:∀p∈Ln,p∈X) (hx:(gm,Obj.cells (m.cells (.slice A n c)) 88 (0,0))∈X)=>o_ask tb mo e.call hs hF hv hx
 have ag:=zbn mo e.call eok.call;have sg:=uv mo.ok mo.b0 mo.b1 ag e.store eok.o0 eok.o1
 have ks:=fun(A':Option Addr) (c':Nat) (L':List (Nat × Obj)) (hr:Row 147 40 (.slice A' (askA m ns e.call).l.length c') (askA m ns e.call).l.length (cgs (askA m ns e.call).l) L') (v:World) (X:List (Nat × Obj)) (hv:St W v J (L'++X)) (hx:(gm,Obj.cells (m.cells (.slice A n c)) 88 (0,0))∈X)=>o_stored mo.ok e.store ag.rep.t hr rfl hv hx
 have hD:calledM m ns e=if eqEn e (bareE e)=true∧y3 e.call=true then
  (if (storedA m (askA m ns e.call) e.store).2=true∧eqRy (storedA m (askA m ns e.call) e.store).1.rep e.rep=true then
   (if (zv m.known (storedA m (askA m ns e.call) e.store).1.l).2=0 then some ⟨(zv m.known (storedA m (askA m ns e.call) e.store).1.l).1,m.tries,(storedA m (askA m ns e.call) e.store).1.job,(storedA m (askA m ns e.call) e.store).1.began⟩ else none) else none) else none:=rfl
 generalize calledM m ns e=RES at *
 have fs:=fun(v:World) (X:List (Nat × Obj)) (hv:St W v J X) (hx:(g,Obj.cells e.cells 54 (0,0))∈X)=>(⟨(hv.en eok hx).call,(hv.en eok hx).store,(hv.en eok hx).rep⟩:v.rangeAt g 2 e.call.cells.toList∧v.cell? ⟨g,87,none⟩=some (.int .i64 e.store)∧v.rangeAt g 7 e.rep.cells.toList)
 have heq2:=fun(r:Ry) (ro:r.Ok)=>qn r e.rep ro eok.rep
 unfold OPost at ka;unfold TPost at ks
 have fa:=fun(v:World) (X:List (Nat × Obj)) (b:Nat) (A2:Option Addr) (c2:Nat) (hv:St W v J X) (hx:(b,Obj.cells ((storedA m (askA m ns e.call) e.store).1.cells (.slice A2 (storedA m (askA m ns e.call) e.store).1.l.length c2)) 96 (0,0))∈X)=>(⟨(hv.cell hx 81).trans (An.g80 sg.rep.t _ 1),(hv.cell hx 88).trans (An.g80 sg.rep.t _ 8),An.job_range sg.rep.t hv hx,An.rep_range sg.rep.t hv hx⟩:v.cell? ⟨b,81,none⟩=some (.slice A2 (storedA m (askA m ns e.call) e.store).1.l.length c2)∧v.cell? ⟨b,88,none⟩=some (.int .i64 (storedA m (askA m ns e.call) e.store).1.began)∧v.rangeAt b 82 (storedA m (askA m ns e.call) e.store).1.job.list∧v.rangeAt b 0 (storedA m (askA m ns e.call) e.store).1.rep.cells.toList)
 have fm:=fun(v:World) (X:List (Nat × Obj)) (hv:St W v J X) (hx:(gm,Obj.cells (m.cells (.slice A n c)) 88 (0,0))∈X)=>(hv.md mo.ok hx).tb.all
 have kp:=fun(A':Option Addr) (c':Nat) (L':List (Nat × Obj)) (hr:Row 147 40 (.slice A' (storedA m (askA m ns e.call) e.store).1.l.length c') (storedA m (askA m ns e.call) e.store).1.l.length (cgs (storedA m (askA m ns e.call) e.store).1.l) L') (v:World) (X:List (Nat × Obj)) (hv:St W v J (L'++X))=>b_apply mo.ok.known sg.form hr sg.few hv
 have tok:=qa (cs:=(storedA m (askA m ns e.call) e.store).1.l) mo.ok.known sg.form;have ti:=z7 mo.ok.known;have zi:=yu sg.rep.t;unfold APost at kp;unfold Cl.val En.val Tb.val at *;generalize storedA m (askA m ns e.call) e.store=R at *;generalize askA m ns e.call=a at *;obtain⟨eb,heb⟩:∃b,eqEn e (bareE e)=b:=⟨_,rfl⟩;obtain⟨rt,hrt⟩:∃b,y3 e.call=b:=⟨_,rfl⟩;obtain⟨rb,hrb⟩:∃b,eqRy R.1.rep e.rep=b:=⟨_,rfl⟩;obtain⟨ob,hob⟩:∃b,R.2=b:=⟨_,rfl⟩;have heq2':=heq2 R.1.rep sg.rep;rw[heb]at heq hD;rw[hrt]at kr hD;rw[hrb]at heq2' hD;rw[hob]at ks hD;obtain⟨EX,hEX⟩:∃y,e.cells=y:=⟨_,rfl⟩;obtain⟨BX,hBX⟩:∃y,(bareE e).cells=y:=⟨_,rfl⟩;obtain⟨cc,hcc⟩:∃y,e.call.cells=y:=⟨_,rfl⟩;obtain⟨Y,hY⟩:∃y,e.rep.cells=y:=⟨_,rfl⟩;obtain⟨Z,hZ⟩:∃y,R.1.rep.cells=y:=⟨_,rfl⟩;obtain⟨MC,hMC⟩:∃y,m.cells (.slice A n c)=y:=⟨_,rfl⟩;rw[hEX]at h1 h1' e0 e1 e87 er2 er7 er0 esz eai heq fs ⊢;rw[hBX]at bz bsz bai bao heq;rw[hcc]at er2 bz qi kr ka fs;rw[hY]at er7 bz yi heq2' fs;rw[hZ]at heq2' fa zi;rw[hMC]at h1 h1' ka ks fm;obtain⟨CT,hCT⟩:∃y,m.known.cells=y:=⟨_,rfl⟩;rw[hCT]at fm kp ti;obtain⟨st,hst⟩:∃y,e.store=y:=⟨_,rfl⟩;rw[hst]at e87 bz ks fs
 have bfit:0+BX.size≤Tryz.zeroCells54.size:=by rw[bsz,zent];omega
 have bmany:zg Tryz.zeroCells54 0 BX.toList=BX:=by rw[zd _ _ (by rw[Array.length_toList,bsz,zent]),Array.toArray_toList]
 have H1:=za h1';have HBZ:=za bz;have BAI:=za bai;have BAO:=za bao;have BFIT:=za bfit;have BMANY:=za bmany;have EAI:=za eai;have QI:=za qi;have YI:=za yi;have ER2:=za er2;have ER7:=za er7;have ER0:=za er0;have KR:=za kr;have KA:=za ka;have KS:=za ks;have SG:=za sg;have HD:=za hD;have FSx:=za fs;have HMC:=za hMC;have MO:=za mo;have HZ:=za hZ;have HLN:=za hLn;have FA:=za fa;have FM:=za fm;have KP:=za kp;have TOK:=za tok;have ZI:=za zi;have TI:Hid ((Tryz.prog.info? 29).map (·.size)=some CT.toList.length):=za (by rw[Array.length_toList];exact ti)
 have ear:=fun(v:World) (X:List (Nat × Obj)) (hv:St W v J X) (hx:(g,Obj.cells EX 54 (0,0))∈X) (j:Nat) (u:Value) (hj:EX.toList[j]?=some u)=>(show v.cell? ⟨g,0+j,none⟩=some u by rw[Nat.zero_add,hv.cell hx j];simpa using hj)
 have EAR:=za ear
 have fin0:RES=none→∀(v:World) (X:List (Nat × Obj)),St W v J (X++((gm,.cells MC 88 (0,0))::F))→(Ending.returned (.bool false)=.returned (.bool RES.isSome)∧St W v J ((gm,.cells ((RES.getD m).cells (.slice A n c)) 88 (0,0))::F)):=fun hn v X hv=>by
  subst hn;exact⟨rfl,by rw[show(none.getD m:Md).cells (.slice A n c)=MC from hMC];exact hv.weaken⟩
 have FIN0:=za fin0;clear h1' bz bai bao bfit bmany eai qi yi er2 er7 er0 kr ka ks sg hD fs hMC mo hZ hLn ear fin0 h1 h ea bok heq2 ag hs eok heb hrt hrb hob hEX hBX hcc hY hst bsz esz tb fa fm kp tok ti zi hCT
 go_enter Tryz.func36,Tryz.ntmps36
 go_wp2_with (first|(with_reducible refine zb 15 rfl (by kernel_rfl) 50 (.tmp 14) rfl g 2 rfl cc _ ER2.out Tryz.underlying50 rfl QI.out ?_)|(with_reducible refine zb 17 rfl (by kernel_rfl) 52 (.tmp 16) rfl g 7 rfl Y _ ER7.out Tryz.underlying52 rfl YI.out ?_)|(with_reducible refine zh rfl 54 _ rfl _ ?_ (HBZ.out _) ?_;·go_simp)|(with_reducible refine zc rfl 54 (.tmp 5) (.tmp 20) rfl (g:=g+1) (off:=0) BX rfl rfl H1.out BFIT.out BAI.out BAO.out ?_;intro w2 h2;refine Hid.out ?_))
 refine za ?_;rw[BMANY.out]at h2;have RA:Hid (w2.rangeAt g 0 EX.toList):=za (EAR.out _ _ h2 (by simp));have RB:Hid (w2.rangeAt (g+1) 0 BX.toList):=za (fun j u hj=>by rw[Nat.zero_add,h2.cell (g:=g+1) (cs:=BX) (t:=54) (fr:=(0,0)) (List.mem_cons_self ..) j];simpa using hj);have R2:=za (FSx.out _ _ h2 (by simp)).1;have H2:=za h2;clear h2 H1 ER2 ER7 ER0 e0 e1 e87 HBZ
 cases eb with
 | false=>
  go_wp2_with (first|(with_reducible refine zb 21 rfl (by kernel_rfl) 54 (.tmp 3) rfl g 0 rfl EX _ RA.out Tryz.underlying54 rfl EAI.out ?_)|(with_reducible refine zb 22 rfl (by kernel_rfl) 54 (.tmp 5) rfl (g+1) 0 rfl BX _ RB.out Tryz.underlying54 rfl BAI.out ?_))
  go_ret;exact FIN0.out (by rw[HD.out];rfl) _ [_,_] H2.out
 | true=>
  go_wp2_with (first|(with_reducible refine zb 21 rfl (by kernel_rfl) 54 (.tmp 3) rfl g 0 rfl EX _ RA.out Tryz.underlying54 rfl EAI.out ?_)|(with_reducible refine zb 22 rfl (by kernel_rfl) 54 (.tmp 5) rfl (g+1) 0 rfl BX _ RB.out Tryz.underlying54 rfl BAI.out ?_)|(with_reducible refine zb 26 rfl (by kernel_rfl) 50 (.tmp 25) rfl g 2 rfl cc _ R2.out Tryz.underlying50 rfl QI.out ?_))
  refine(KR.out _ _ H2.out).mono ?_;rintro e w3 ⟨rfl,h3⟩;have H3:=za h3;clear h3 H2 RA RB R2
  cases rt with
  | false=>
   go_wp2_with fail;go_ret;exact FIN0.out (by rw[HD.out];rfl) _ [_,_] H3.out
  | true=>
   clear KR heq;have HAL:=za (H3.out.alloc (.cells Tryz.zeroCells96 96)).drew1;have HDW:=za H3.out.drew1;have s1:=FSx.out _ _ HDW.out (by simp);have HUC:=za Tryz.underlying50;have QI2:Hid ((Tryz.prog.info? 50).map (·.size)=some cc.toList.length):=za (by rw[Array.length_toList];exact QI.out)
   go_upto_region 4 with fail
   go_cut [6,7] (fun s6 s7 wx=>∃b A2 c2 L2,s6=.pointer (some ⟨b,0,none⟩)∧s7=.bool ob∧Row 147 40 (.slice A2 R.1.l.length c2) R.1.l.length (cgs R.1.l) L2∧St W wx J ((b,.cells (R.1.cells (.slice A2 R.1.l.length c2)) 96 (0,0))::(L2++((g+1,.cells BX 54 (0,0))::(g,.cells EX 54 (0,0))::(gm,.cells MC 88 (0,0))::F))))
   case first=>
    refine wp_region_held_drew (S:=fun v=>v.rangeAt g 2 cc.toList∧v.cell? ⟨g,87,none⟩=some (.int .i64 st)∧v.rangeAt g 7 Y.toList) (by kernel_rfl) s1 (fun hHeld=>?_)
    refine tk op0 (v:=?_) (by kernel_rfl) ?_ (by assumption) ?_ fun _ _ _ h=>h
    rotate_left
    ·(refine ya rfl fun w hSw=>?_;go_simp;rfl)
    try simp only[Act.put,pu1,pu2,pu3]
    refine tk op1 (v:=?_) (by kernel_rfl) ?_ (by assumption) ?_ fun _ _ _ h=>h
    rotate_left
    ·(refine ya rfl fun w hSw=>?_;go_simp;rfl)
    try simp only[Act.put,pu1,pu2,pu3]
    refine tk op2 (v:=?_) (by kernel_rfl) ?_ (by assumption) ?_ fun _ _ _ h=>h
    rotate_left
    ·(refine ya rfl fun w hSw=>?_;go_simp;rfl)
    try simp only[Act.put,pu1,pu2,pu3]
    refine tk op3 (v:=?_) (by kernel_rfl) ?_ (by assumption) ?_ fun _ _ _ h=>h
    rotate_left
    ·(((refine yieldsIf_load_mid ?_ 50 (.tmp 33) ?_ g 2 ?_ cc.toList _ ?_ HUC.out ?_ QI2.out)<;>first|rfl|exact fun w h=>h.1))
    try simp only[Act.put,pu1,pu2,pu3]
    refine tk op5 (v:=?_) (by kernel_rfl) ?_ (by assumption) ?_ fun _ _ _ h=>h
    rotate_left
    ·(refine ya rfl fun w hSw=>?_;go_simp;rfl)
    try simp only[Act.put,pu1,pu2,pu3]
    refine tk op6 (v:=?_) (by kernel_rfl) ?_ (by assumption) ?_ fun _ _ _ h=>h
    rotate_left
    ·((refine Or.inl ⟨by rfl,?_⟩;intro w hSw;obtain⟨hS1,hS2,hS3⟩:=hSw;go_simp;try with_reducible rfl))
    try simp only[Act.put,pu1,pu2,pu3]
    refine rds (i:=4) (rs:=[11]) (by kernel_rfl) ?_;refine .cons op4 (fun K hK=>?_) ?_
    ·go_simp
     ((go_at_call 41;(with_reducible refine(KA.out _ _ (HDW.out) (fun p hp=>by simp[HLN.out p hp]) (by simp)).mono ?_);rintro e wx ⟨A1,c1,L1,rfl,hr1,hx⟩;dsimp only))
     refine hK.out _ _ ?_ fun hHeld=>?_
     ·(try dsimp only)<;>((exact FSx.out _ _ hx (by simp)))
     clear hK K
     try simp only[Act.put,pu1,pu2,pu3]
     refine rds (i:=7) (rs:=[11]) (by kernel_rfl) ?_;refine .cons op7 (fun K hK=>?_) ?_
     ·go_simp
      ((go_at_call 40;(with_reducible refine(KS.out A1 c1 L1 hr1 _ _ (hx) (by simp)).mono ?_);rintro e wy ⟨A2,c2,L2,rfl,hr2,hy⟩;dsimp only))
      refine hK.out _ _ ?_ fun hHeld=>?_
      ·(try dsimp only)<;>((exact FSx.out _ _ hy (by simp)))
      clear hK K
      try simp only[Act.put,pu1,pu2,pu3]
      refine tk op8 (v:=?_) (by kernel_rfl) ?_ (by assumption) ?_ fun _ _ _ h=>h
      rotate_left
      ·(refine ya rfl fun w hSw=>?_;go_simp;rfl)
      try simp only[Act.put,pu1,pu2,pu3]
      refine tk op9 (v:=?_) (by kernel_rfl) ?_ (by assumption) ?_ fun _ _ _ h=>h
      rotate_left
      ·(refine ya rfl fun w hSw=>?_;go_simp;rfl)
      try simp only[Act.put,pu1,pu2,pu3]
      refine tk (oq op0) (v:=?_) (by kernel_rfl) ?_ (by assumption) ?_ fun _ _ _ h=>h
      rotate_left
      ·(refine ya rfl fun w hSw=>?_;go_simp;rfl)
      try simp only[Act.put,pu1,pu2,pu3]
      refine rd1 (oq op1) (by kernel_rfl) fun K hK=>?_
      go_simp
      refine hK.out _ _ ?_ fun hHeld=>?_
      ·(try dsimp only)<;>((exact FSx.out _ _ (hy.alloc (.cells Tryz.zeroCells96 96)) (by simp)))
      clear hK K
      try simp only[Act.put,pu1,pu2,pu3]
      refine rd1 (oq op2) (by kernel_rfl) fun K hK=>?_
      ((obtain⟨Q,hQ⟩:∃Q,R.1.cells (.slice A2 R.1.l.length c2)=Q:=⟨_,rfl⟩;have rsz:=An.size (a:=R.1) SG.out.rep.t (.slice A2 R.1.l.length c2);have rai:=yv (a:=R.1) SG.out.rep.t (.slice A2 R.1.l.length c2);have rao:=An.one R.1 (v:=.slice A2 R.1.l.length c2) rfl;rw[hQ]at rsz rai rao ⊢;have rfit:0+Q.size≤Tryz.zeroCells96.size:=(by rw[rsz,zan];omega);have rmany:zg Tryz.zeroCells96 0 Q.toList=Q:=(by rw[zd _ _ (by rw[Array.length_toList,rsz,zan]),Array.toArray_toList]);refine zq rfl 96 (.tmp 6) (.tmp 39) rfl (g:=wy.heap.size) (off:=0) Q rfl rfl (hy.alloc (.cells Tryz.zeroCells96 96)) rfit rai rao ?_;intro wf hf;rw[rmany,←hQ]at hf;dsimp only))
      refine hK.out _ _ ?_ fun hHeld=>?_
      ·(try dsimp only)<;>((exact FSx.out _ _ hf (by simp)))
      clear hK K
      try simp only[Act.put,pu1,pu2,pu3]
      refine tk (oq op3) (v:=?_) (by kernel_rfl) ?_ (by assumption) ?_ fun _ _ _ h=>h
      rotate_left
      ·(refine ya rfl fun w hSw=>?_;go_simp;rfl)
      try simp only[Act.put,pu1,pu2,pu3]
      refine wpAnyH_done (by kernel_rfl) ?_ _;go_wp2_with fail;go_meet;exact⟨_,_,_,_,rfl,rfl,hr2,hf⟩
     refine .cons (oq op1) (fun K hK=>?_) ?_
     ·go_simp
      refine hK.out _ _ ?_ fun hHeld=>?_
      ·(try dsimp only)<;>((exact FSx.out _ _ (hx.alloc (.cells Tryz.zeroCells96 96)) (by simp)))
      clear hK K
      try simp only[Act.put,pu1,pu2,pu3]
      refine rd1 op7 (by kernel_rfl) fun K hK=>?_
      go_simp
      ((go_at_call 40;(with_reducible refine(KS.out A1 c1 L1 hr1 _ _ (St.perm (L':=L1++((wx.heap.size,.cells Tryz.zeroCells96 96 (0,0))::((g+1,.cells BX 54 (0,0))::(g,.cells EX 54 (0,0))::(gm,.cells MC 88 (0,0))::F))) (hx.alloc (.cells Tryz.zeroCells96 96)) ze) (by simp)).mono ?_);rintro e wy ⟨A2,c2,L2,rfl,hr2,hy⟩;dsimp only))
      refine hK.out _ _ ?_ fun hHeld=>?_
      ·(try dsimp only)<;>((exact FSx.out _ _ hy (by simp)))
      clear hK K
      try simp only[Act.put,pu1,pu2,pu3]
      refine tk op8 (v:=?_) (by kernel_rfl) ?_ (by assumption) ?_ fun _ _ _ h=>h
      rotate_left
      ·(refine ya rfl fun w hSw=>?_;go_simp;rfl)
      try simp only[Act.put,pu1,pu2,pu3]
      refine tk op9 (v:=?_) (by kernel_rfl) ?_ (by assumption) ?_ fun _ _ _ h=>h
      rotate_left
      ·(refine ya rfl fun w hSw=>?_;go_simp;rfl)
      try simp only[Act.put,pu1,pu2,pu3]
      refine tk (oq op0) (v:=?_) (by kernel_rfl) ?_ (by assumption) ?_ fun _ _ _ h=>h
      rotate_left
      ·(refine ya rfl fun w hSw=>?_;go_simp;rfl)
      try simp only[Act.put,pu1,pu2,pu3]
      refine rd1 (oq op2) (by kernel_rfl) fun K hK=>?_
      ((obtain⟨Q,hQ⟩:∃Q,R.1.cells (.slice A2 R.1.l.length c2)=Q:=⟨_,rfl⟩;have rsz:=An.size (a:=R.1) SG.out.rep.t (.slice A2 R.1.l.length c2);have rai:=yv (a:=R.1) SG.out.rep.t (.slice A2 R.1.l.length c2);have rao:=An.one R.1 (v:=.slice A2 R.1.l.length c2) rfl;rw[hQ]at rsz rai rao ⊢;have rfit:0+Q.size≤Tryz.zeroCells96.size:=(by rw[rsz,zan];omega);have rmany:zg Tryz.zeroCells96 0 Q.toList=Q:=(by rw[zd _ _ (by rw[Array.length_toList,rsz,zan]),Array.toArray_toList]);refine zq rfl 96 (.tmp 6) (.tmp 39) rfl (g:=wx.heap.size) (off:=0) Q rfl rfl (St.perm (L':=(wx.heap.size,.cells Tryz.zeroCells96 96 (0,0))::(L2++((g+1,.cells BX 54 (0,0))::(g,.cells EX 54 (0,0))::(gm,.cells MC 88 (0,0))::F))) hy ze) rfit rai rao ?_;intro wf hf;rw[rmany,←hQ]at hf;dsimp only))
      refine hK.out _ _ ?_ fun hHeld=>?_
      ·(try dsimp only)<;>((exact FSx.out _ _ hf (by simp)))
      clear hK K
      try simp only[Act.put,pu1,pu2,pu3]
      refine tk (oq op3) (v:=?_) (by kernel_rfl) ?_ (by assumption) ?_ fun _ _ _ h=>h
      rotate_left
      ·(refine ya rfl fun w hSw=>?_;go_simp;rfl)
      try simp only[Act.put,pu1,pu2,pu3]
      refine wpAnyH_done (by kernel_rfl) ?_ _;go_wp2_with fail;go_meet;exact⟨_,_,_,_,rfl,rfl,hr2,hf⟩
     exact .nil
    refine .cons (oq op1) (fun K hK=>?_) ?_
    ·go_simp
     refine hK.out _ _ ?_ fun hHeld=>?_
     ·(try dsimp only)<;>((exact FSx.out _ _ HAL.out (by simp)))
     clear hK K
     try simp only[Act.put,pu1,pu2,pu3]
     refine rd1 op4 (by kernel_rfl) fun K hK=>?_
     go_simp
     ((go_at_call 41;(with_reducible refine(KA.out _ _ (HAL.out) (fun p hp=>by simp[HLN.out p hp]) (by simp)).mono ?_);rintro e wx ⟨A1,c1,L1,rfl,hr1,hx⟩;dsimp only))
     refine hK.out _ _ ?_ fun hHeld=>?_
     ·(try dsimp only)<;>((exact FSx.out _ _ hx (by simp)))
     clear hK K
     try simp only[Act.put,pu1,pu2,pu3]
     refine rd1 op7 (by kernel_rfl) fun K hK=>?_
     go_simp
     ((go_at_call 40;(with_reducible refine(KS.out A1 c1 L1 hr1 _ _ (hx) (by simp)).mono ?_);rintro e wy ⟨A2,c2,L2,rfl,hr2,hy⟩;dsimp only))
     refine hK.out _ _ ?_ fun hHeld=>?_
     ·(try dsimp only)<;>((exact FSx.out _ _ hy (by simp)))
     clear hK K
     try simp only[Act.put,pu1,pu2,pu3]
     refine tk op8 (v:=?_) (by kernel_rfl) ?_ (by assumption) ?_ fun _ _ _ h=>h
     rotate_left
     ·(refine ya rfl fun w hSw=>?_;go_simp;rfl)
     try simp only[Act.put,pu1,pu2,pu3]
     refine tk op9 (v:=?_) (by kernel_rfl) ?_ (by assumption) ?_ fun _ _ _ h=>h
     rotate_left
     ·(refine ya rfl fun w hSw=>?_;go_simp;rfl)
     try simp only[Act.put,pu1,pu2,pu3]
     refine tk (oq op0) (v:=?_) (by kernel_rfl) ?_ (by assumption) ?_ fun _ _ _ h=>h
     rotate_left
     ·(refine ya rfl fun w hSw=>?_;go_simp;rfl)
     try simp only[Act.put,pu1,pu2,pu3]
     refine rd1 (oq op2) (by kernel_rfl) fun K hK=>?_
     ((obtain⟨Q,hQ⟩:∃Q,R.1.cells (.slice A2 R.1.l.length c2)=Q:=⟨_,rfl⟩;have rsz:=An.size (a:=R.1) SG.out.rep.t (.slice A2 R.1.l.length c2);have rai:=yv (a:=R.1) SG.out.rep.t (.slice A2 R.1.l.length c2);have rao:=An.one R.1 (v:=.slice A2 R.1.l.length c2) rfl;rw[hQ]at rsz rai rao ⊢;have rfit:0+Q.size≤Tryz.zeroCells96.size:=(by rw[rsz,zan];omega);have rmany:zg Tryz.zeroCells96 0 Q.toList=Q:=(by rw[zd _ _ (by rw[Array.length_toList,rsz,zan]),Array.toArray_toList]);refine zq rfl 96 (.tmp 6) (.tmp 39) rfl (g:=w3.heap.size) (off:=0) Q rfl rfl (St.perm (L':=(w3.heap.size,.cells Tryz.zeroCells96 96 (0,0))::(L2++((g+1,.cells BX 54 (0,0))::(g,.cells EX 54 (0,0))::(gm,.cells MC 88 (0,0))::F))) hy ze) rfit rai rao ?_;intro wf hf;rw[rmany,←hQ]at hf;dsimp only))
     refine hK.out _ _ ?_ fun hHeld=>?_
     ·(try dsimp only)<;>((exact FSx.out _ _ hf (by simp)))
     clear hK K
     try simp only[Act.put,pu1,pu2,pu3]
     refine tk (oq op3) (v:=?_) (by kernel_rfl) ?_ (by assumption) ?_ fun _ _ _ h=>h
     rotate_left
     ·(refine ya rfl fun w hSw=>?_;go_simp;rfl)
     try simp only[Act.put,pu1,pu2,pu3]
     refine wpAnyH_done (by kernel_rfl) ?_ _;go_wp2_with fail;go_meet;exact⟨_,_,_,_,rfl,rfl,hr2,hf⟩
    exact .nil
   case rest=>
    obtain⟨b,A2,c2,L2,rfl,rfl,hr2,h4⟩:=hcut;obtain⟨fa1,fa2,fa3,fa4⟩:=FA.out _ _ b A2 c2 h4 (by simp);have R7:=za (FSx.out _ _ h4 (by simp)).2.2;have H4:=za h4;have HR2:=za hr2;have RZ:=za fa4;clear h4 hr2 HDW HAL s1 H3 KA KS fa4
    cases ob with
    | false=>
     go_wp2_with fail;go_ret;exact FIN0.out (by rw[HD.out];simp) _ ((b,.cells (R.1.cells (.slice A2 R.1.l.length c2)) 96 (0,0))::(L2++[(g+1,.cells BX 54 (0,0)),(g,.cells EX 54 (0,0))])) (H4.out.perm ze)
    | true=>
     cases rb with
     | false=>
      go_wp2_with (first|(with_reducible refine zb 45 rfl (by kernel_rfl) 52 (.tmp 44) rfl b 0 rfl Z _ RZ.out Tryz.underlying52 rfl ZI.out ?_)|(with_reducible refine zb 47 rfl (by kernel_rfl) 52 (.tmp 46) rfl g 7 rfl Y _ R7.out Tryz.underlying52 rfl YI.out ?_))
      go_ret;exact FIN0.out (by rw[HD.out];simp) _ ((b,.cells (R.1.cells (.slice A2 R.1.l.length c2)) 96 (0,0))::(L2++[(g+1,.cells BX 54 (0,0)),(g,.cells EX 54 (0,0))])) (H4.out.perm ze)
     | true=>
      have HD2:Hid (RES=if (zv m.known R.1.l).2=0 then some ⟨(zv m.known R.1.l).1,m.tries,R.1.job,R.1.began⟩ else none):=za (by rw[HD.out];simp);clear HD;have tsz:=Tb.size TOK.out;have tai:=z7 TOK.out;have tao:=(zv m.known R.1.l).1.one
      have tfit:0+(zv m.known R.1.l).1.cells.size≤Tryz.zeroCells29.size:=by rw[tsz,qu];omega
      have tmany:zg Tryz.zeroCells29 0 (zv m.known R.1.l).1.cells.toList=(zv m.known R.1.l).1.cells:=by rw[zd _ _ (by rw[Array.length_toList,tsz,qu]),Array.toArray_toList]
      have TFIT:=za tfit;have TMANY:=za tmany;have TAI:=za tai;have TAO:=za tao;clear tsz tai tao tfit tmany;have H4A:=za (H4.out.alloc (.cells Tryz.zeroCells29 29)).drew1;have HDW:=za H4.out.drew1
      have KP2:=fun(v:World) (X:List (Nat × Obj)) (hv:St W v J (L2++X))=>KP.out A2 c2 L2 HR2.out v X hv
      have KP3:=za KP2;clear KP2
      have fs2:=fun(v:World) (X:List (Nat × Obj)) (hv:St W v J X) (h1:(gm,Obj.cells MC 88 (0,0))∈X) (h2:(b,Obj.cells (R.1.cells (.slice A2 R.1.l.length c2)) 96 (0,0))∈X)=>(⟨FM.out _ _ hv h1,(FA.out _ _ b A2 c2 hv h2).1⟩:v.rangeAt gm 0 CT.toList∧v.cell? ⟨b,81,none⟩=some (.slice A2 R.1.l.length c2))
      have s2:=fs2 _ _ HDW.out (by simp) (by simp);have FS2:=za fs2;have HUT:=za Tryz.underlying29;clear fs2;obtain⟨AX,hAX⟩:∃y,R.1.cells (.slice A2 R.1.l.length c2)=y:=⟨_,rfl⟩;rw[hAX]at H4A HDW FS2 H4
      go_upto_region 7 with(first|(with_reducible refine zb 45 rfl (by kernel_rfl) 52 (.tmp 44) rfl b 0 rfl Z _ RZ.out Tryz.underlying52 rfl ZI.out ?_)|(with_reducible refine zb 47 rfl (by kernel_rfl) 52 (.tmp 46) rfl g 7 rfl Y _ R7.out Tryz.underlying52 rfl YI.out ?_))
      go_cut [8,9] (fun s8 s9 wx=>∃b8,s8=.pointer (some ⟨b8,0,none⟩)∧s9=.int .i64 (zv m.known R.1.l).2∧St W wx J ((b8,.cells (zv m.known R.1.l).1.cells 29 (0,0))::(L2++((b,.cells AX 96 (0,0))::((g+1,.cells BX 54 (0,0))::(g,.cells EX 54 (0,0))::(gm,.cells MC 88 (0,0))::F)))))
      case first=>
       refine wp_region_held_drew (S:=fun v=>v.rangeAt gm 0 CT.toList∧v.cell? ⟨b,81,none⟩=some (.slice A2 R.1.l.length c2)) (by kernel_rfl) s2 (fun hHeld=>?_)
       refine tk op0 (v:=?_) (by kernel_rfl) ?_ (by assumption) ?_ fun _ _ _ h=>h
       rotate_left
       ·(refine ya rfl fun w hSw=>?_;go_simp;rfl)
       try simp only[Act.put,pu1,pu2,pu3]
       refine tk op1 (v:=?_) (by kernel_rfl) ?_ (by assumption) ?_ fun _ _ _ h=>h
       rotate_left
       ·(refine ya rfl fun w hSw=>?_;go_simp;rfl)
       try simp only[Act.put,pu1,pu2,pu3]
       refine tk op2 (v:=?_) (by kernel_rfl) ?_ (by assumption) ?_ fun _ _ _ h=>h
       rotate_left
       ·(refine ya rfl fun w hSw=>?_;go_simp;rfl)
       try simp only[Act.put,pu1,pu2,pu3]
       refine tk op3 (v:=?_) (by kernel_rfl) ?_ (by assumption) ?_ fun _ _ _ h=>h
       rotate_left
       ·(((refine yieldsIf_load_mid ?_ 29 (.tmp 53) ?_ gm 0 ?_ CT.toList _ ?_ HUT.out ?_ TI.out)<;>first|rfl|exact fun w h=>h.1))
       try simp only[Act.put,pu1,pu2,pu3]
       refine tk op4 (v:=?_) (by kernel_rfl) ?_ (by assumption) ?_ fun _ _ _ h=>h
       rotate_left
       ·(refine ya rfl fun w hSw=>?_;go_simp;rfl)
       try simp only[Act.put,pu1,pu2,pu3]
       refine tk op5 (v:=?_) (by kernel_rfl) ?_ (by assumption) ?_ fun _ _ _ h=>h
       rotate_left
       ·((refine Or.inl ⟨by rfl,?_⟩;intro w hSw;obtain⟨hS1,hS2⟩:=hSw;go_simp;try with_reducible rfl))
       try simp only[Act.put,pu1,pu2,pu3]
       refine rds (i:=6) (rs:=[10]) (by kernel_rfl) ?_;refine .cons op6 (fun K hK=>?_) ?_
       ·go_simp
        ((go_at_call 65;(with_reducible refine(KP3.out _ _ (St.perm (L':=L2++((b,.cells AX 96 (0,0))::((g+1,.cells BX 54 (0,0))::(g,.cells EX 54 (0,0))::(gm,.cells MC 88 (0,0))::F))) HDW.out ze)).mono ?_);rintro e wx ⟨rfl,hx⟩;dsimp only))
        refine hK.out _ _ ?_ fun hHeld=>?_
        ·(try dsimp only)<;>((exact FS2.out _ _ hx (by simp) (by simp)))
        clear hK K
        try simp only[Act.put,pu1,pu2,pu3]
        refine tk op7 (v:=?_) (by kernel_rfl) ?_ (by assumption) ?_ fun _ _ _ h=>h
        rotate_left
        ·(refine ya rfl fun w hSw=>?_;go_simp;rfl)
        try simp only[Act.put,pu1,pu2,pu3]
        refine tk op8 (v:=?_) (by kernel_rfl) ?_ (by assumption) ?_ fun _ _ _ h=>h
        rotate_left
        ·(refine ya rfl fun w hSw=>?_;go_simp;rfl)
        try simp only[Act.put,pu1,pu2,pu3]
        refine tk op9 (v:=?_) (by kernel_rfl) ?_ (by assumption) ?_ fun _ _ _ h=>h
        rotate_left
        ·(refine ya rfl fun w hSw=>?_;go_simp;rfl)
        try simp only[Act.put,pu1,pu2,pu3]
        refine rd1 (oq op0) (by kernel_rfl) fun K hK=>?_
        go_simp
        refine hK.out _ _ ?_ fun hHeld=>?_
        ·(try dsimp only)<;>((exact FS2.out _ _ (hx.alloc (.cells Tryz.zeroCells29 29)) (by simp) (by simp)))
        clear hK K
        try simp only[Act.put,pu1,pu2,pu3]
        refine rd1 (oq op1) (by kernel_rfl) fun K hK=>?_
        ((refine zq rfl 29 (.tmp 8) (.tmp 58) rfl (g:=wx.heap.size) (off:=0) (zv m.known R.1.l).1.cells rfl rfl (hx.alloc (.cells Tryz.zeroCells29 29)) TFIT.out TAI.out TAO.out ?_;intro wf hf;rw[TMANY.out]at hf;dsimp only))
        refine hK.out _ _ ?_ fun hHeld=>?_
        ·(try dsimp only)<;>((exact FS2.out _ _ hf (by simp) (by simp)))
        clear hK K
        try simp only[Act.put,pu1,pu2,pu3]
        refine tk (oq op2) (v:=?_) (by kernel_rfl) ?_ (by assumption) ?_ fun _ _ _ h=>h
        rotate_left
        ·(refine ya rfl fun w hSw=>?_;go_simp;rfl)
        try simp only[Act.put,pu1,pu2,pu3]
        refine wpAnyH_done (by kernel_rfl) ?_ _;go_wp2_with fail;go_meet;exact⟨_,rfl,rfl,hf⟩
       refine .cons (oq op0) (fun K hK=>?_) ?_
       ·go_simp
        refine hK.out _ _ ?_ fun hHeld=>?_
        ·(try dsimp only)<;>((exact FS2.out _ _ H4A.out (by simp) (by simp)))
        clear hK K
        try simp only[Act.put,pu1,pu2,pu3]
        refine rd1 op6 (by kernel_rfl) fun K hK=>?_
        go_simp
        ((go_at_call 65;(with_reducible refine(KP3.out _ _ (St.perm (L':=L2++((wc.heap.size,.cells Tryz.zeroCells29 29 (0,0))::(b,.cells AX 96 (0,0))::((g+1,.cells BX 54 (0,0))::(g,.cells EX 54 (0,0))::(gm,.cells MC 88 (0,0))::F))) H4A.out ze)).mono ?_);rintro e wx ⟨rfl,hx⟩;dsimp only))
        refine hK.out _ _ ?_ fun hHeld=>?_
        ·(try dsimp only)<;>((exact FS2.out _ _ hx (by simp) (by simp)))
        clear hK K
        try simp only[Act.put,pu1,pu2,pu3]
        refine tk op7 (v:=?_) (by kernel_rfl) ?_ (by assumption) ?_ fun _ _ _ h=>h
        rotate_left
        ·(refine ya rfl fun w hSw=>?_;go_simp;rfl)
        try simp only[Act.put,pu1,pu2,pu3]
        refine tk op8 (v:=?_) (by kernel_rfl) ?_ (by assumption) ?_ fun _ _ _ h=>h
        rotate_left
        ·(refine ya rfl fun w hSw=>?_;go_simp;rfl)
        try simp only[Act.put,pu1,pu2,pu3]
        refine tk op9 (v:=?_) (by kernel_rfl) ?_ (by assumption) ?_ fun _ _ _ h=>h
        rotate_left
        ·(refine ya rfl fun w hSw=>?_;go_simp;rfl)
        try simp only[Act.put,pu1,pu2,pu3]
        refine rd1 (oq op1) (by kernel_rfl) fun K hK=>?_
        ((refine zq rfl 29 (.tmp 8) (.tmp 58) rfl (g:=wc.heap.size) (off:=0) (zv m.known R.1.l).1.cells rfl rfl (St.perm (L':=(wc.heap.size,.cells Tryz.zeroCells29 29 (0,0))::(L2++((b,.cells AX 96 (0,0))::((g+1,.cells BX 54 (0,0))::(g,.cells EX 54 (0,0))::(gm,.cells MC 88 (0,0))::F)))) hx ze) TFIT.out TAI.out TAO.out ?_;intro wf hf;rw[TMANY.out]at hf;dsimp only))
        refine hK.out _ _ ?_ fun hHeld=>?_
        ·(try dsimp only)<;>((exact FS2.out _ _ hf (by simp) (by simp)))
        clear hK K
        try simp only[Act.put,pu1,pu2,pu3]
        refine tk (oq op2) (v:=?_) (by kernel_rfl) ?_ (by assumption) ?_ fun _ _ _ h=>h
        rotate_left
        ·(refine ya rfl fun w hSw=>?_;go_simp;rfl)
        try simp only[Act.put,pu1,pu2,pu3]
        refine wpAnyH_done (by kernel_rfl) ?_ _;go_wp2_with fail;go_meet;exact⟨_,rfl,rfl,hf⟩
       exact .nil
      case rest=>
       obtain⟨b8,rfl,rfl,h5⟩:=hcut;have H5:=za h5;clear h5 HDW H4A H4 s2 FS2 KP3 HR2 RZ R7;obtain⟨ae,hae⟩:∃y,(zv m.known R.1.l).2=y:=⟨_,rfl⟩;rw[hae]at HD2 ⊢
       by_cases h0:ae=0
       ·subst h0
        have hres:RES=some ⟨(zv m.known R.1.l).1,m.tries,R.1.job,R.1.began⟩:=by rw[HD2.out,if_pos rfl]
        have p3:=Md.put_three MO.out.ok.known (.slice A n c) (zv m.known R.1.l).1 TOK.out R.1.job R.1.began;rw[HMC.out]at p3;have msz:=Md.size MO.out.ok.known (.slice A n c);rw[HMC.out]at msz;have h6:=St.perm (L':=(gm,.cells MC 88 (0,0))::((b8,.cells (zv m.known R.1.l).1.cells 29 (0,0))::(b,.cells AX 96 (0,0))::(g+1,.cells BX 54 (0,0))::(g,.cells EX 54 (0,0))::(L2++F))) H5.out ze
        have fin1:∀(v:World),St W v J ((gm,.cells (zg (zg (zg MC 0 (zv m.known R.1.l).1.cells.toList) 77 R.1.job.list) 83 [.int .i64 R.1.began]) 88 (0,0))::((b8,.cells (zv m.known R.1.l).1.cells 29 (0,0))::(b,.cells AX 96 (0,0))::(g+1,.cells BX 54 (0,0))::(g,.cells EX 54 (0,0))::(L2++F)))→(Ending.returned (.bool true)=.returned (.bool RES.isSome)∧St W v J ((gm,.cells ((RES.getD m).cells (.slice A n c)) 88 (0,0))::F)):=fun v hv=>by
         rw[hres];refine⟨rfl,?_⟩;rw[p3]at hv;rw[Option.getD_some];exact hv.keep ((b8,.cells (zv m.known R.1.l).1.cells 29 (0,0))::(b,.cells AX 96 (0,0))::(g+1,.cells BX 54 (0,0))::(g,.cells EX 54 (0,0))::L2) (fun i a=>by simp only[List.count_append,List.count_cons,List.count_nil];omega)
        have fs3:=fun(v:World) (X:List (Nat × Obj)) (hv:St W v J X) (h1:(b8,Obj.cells (zv m.known R.1.l).1.cells 29 (0,0))∈X) (h2:(b,Obj.cells AX 96 (0,0))∈X)=>(⟨fun j u hj=>(by rw[Nat.zero_add,hv.cell h1 j];simpa using hj),(FA.out v X b A2 c2 hv (by rw[hAX];exact h2)).2.2.1,(FA.out v X b A2 c2 hv (by rw[hAX];exact h2)).2.1⟩:v.rangeAt b8 0 (zv m.known R.1.l).1.cells.toList∧v.rangeAt b 82 R.1.job.list∧v.cell? ⟨b,88,none⟩=some (.int .i64 R.1.began))
        obtain⟨TX,hTX⟩:∃y,(zv m.known R.1.l).1.cells=y:=⟨_,rfl⟩;have tsz:=Tb.size TOK.out;rw[hTX]at fin1 fs3 h6 tsz;have tai:Hid ((Tryz.prog.info? 29).map (·.size)=some TX.size):=za (by have q:=z7 TOK.out;rw[hTX]at q;exact q);have tai2:Hid ((Tryz.prog.info? 29).map (·.size)=some TX.toList.length):=za (by rw[Array.length_toList];exact tai.out);have tao:Hid (TX.all (·.oneCell')=true):=za (by have q:=(zv m.known R.1.l).1.one;rw[hTX]at q;exact q);have HJI:Hid ((Tryz.prog.info? 86).map (·.size)=some R.1.job.list.length):=za (by kernel_rfl);have HJI2:Hid ((Tryz.prog.info? 86).map (·.size)=some R.1.job.list.toArray.size):=za (by kernel_rfl);have HJO:Hid (R.1.job.list.toArray.all (·.oneCell')=true):=za (by kernel_rfl);have I2:Hid ((Tryz.prog.info? 3).map (·.size)=some 1):=za (by kernel_rfl);have F1:Hid (0+TX.size≤MC.size):=za (by rw[tsz,msz];omega);have F2:Hid (77+R.1.job.list.toArray.size≤(zg MC 0 TX.toList).size):=za (by rw[yd,msz];show 77+6≤84;omega);have F3:Hid (83 < (zg (zg MC 0 TX.toList) 77 R.1.job.list.toArray.toList).size):=za (by rw[yd,yd,msz];omega);have HDW:=za h6.drew1;have FS3:=za fs3;have FIN1:=za fin1;have HUJ:=za Tryz.underlying86;have s3:=fs3 _ _ HDW.out (by simp) (by simp);clear h6 fin1 fs3 tsz msz p3 hres HD2 H5 hTX hAX TFIT TMANY TAI TAO FA hae;obtain⟨bg,hbg⟩:∃y,R.1.began=y:=⟨_,rfl⟩;obtain⟨jl,hjl⟩:∃y,R.1.job.list=y:=⟨_,rfl⟩;rw[hbg]at FIN1 FS3 s3;rw[hjl]at FIN1 FS3 s3 HJI HJI2 HJO F2 F3;clear hbg hjl;go_wp2_with fail
        refine wp_region_held_drew (S:=fun v=>v.rangeAt b8 0 TX.toList∧v.rangeAt b 82 jl∧v.cell? ⟨b,88,none⟩=some (.int .i64 bg)) (by kernel_rfl) s3 (fun hHeld=>?_)
        refine tk op0 (v:=?_) (by kernel_rfl) ?_ (by assumption) ?_ fun _ _ _ h=>h
        rotate_left
        ·(refine ya rfl fun w hSw=>?_;go_simp;rfl)
        try simp only[Act.put,pu1,pu2,pu3]
        refine tk op1 (v:=?_) (by kernel_rfl) ?_ (by assumption) ?_ fun _ _ _ h=>h
        rotate_left
        ·(refine ya rfl fun w hSw=>?_;go_simp;rfl)
        try simp only[Act.put,pu1,pu2,pu3]
        refine tk op2 (v:=?_) (by kernel_rfl) ?_ (by assumption) ?_ fun _ _ _ h=>h
        rotate_left
        ·(refine ya rfl fun w hSw=>?_;go_simp;rfl)
        try simp only[Act.put,pu1,pu2,pu3]
        refine tk op3 (v:=?_) (by kernel_rfl) ?_ (by assumption) ?_ fun _ _ _ h=>h
        rotate_left
        ·(((refine yieldsIf_load_mid ?_ 29 (.tmp 8) ?_ b8 0 ?_ TX.toList _ ?_ HUT.out ?_ tai2.out)<;>first|rfl|exact fun w h=>h.1))
        try simp only[Act.put,pu1,pu2,pu3]
        refine tk op4 (v:=?_) (by kernel_rfl) ?_ (by assumption) ?_ fun _ _ _ h=>h
        rotate_left
        ·(refine ya rfl fun w hSw=>?_;go_simp;rfl)
        try simp only[Act.put,pu1,pu2,pu3]
        refine tk op5 (v:=?_) (by kernel_rfl) ?_ (by assumption) ?_ fun _ _ _ h=>h
        rotate_left
        ·(((refine yieldsIf_load_mid ?_ 86 (.tmp 66) ?_ b 82 ?_ jl _ ?_ HUJ.out ?_ HJI.out)<;>first|rfl|exact fun w h=>h.2.1))
        try simp only[Act.put,pu1,pu2,pu3]
        refine tk op6 (v:=?_) (by kernel_rfl) ?_ (by assumption) ?_ fun _ _ _ h=>h
        rotate_left
        ·(refine ya rfl fun w hSw=>?_;go_simp;rfl)
        try simp only[Act.put,pu1,pu2,pu3]
        refine tk op7 (v:=?_) (by kernel_rfl) ?_ (by assumption) ?_ fun _ _ _ h=>h
        rotate_left
        ·((refine Or.inl ⟨by rfl,?_⟩;intro w hSw;obtain⟨hS1,hS2,hS3⟩:=hSw;go_simp;try with_reducible rfl))
        try simp only[Act.put,pu1,pu2,pu3]
        refine tk op8 (v:=?_) (by kernel_rfl) ?_ (by assumption) ?_ fun _ _ _ h=>h
        rotate_left
        ·(refine ya rfl fun w hSw=>?_;go_simp;rfl)
        try simp only[Act.put,pu1,pu2,pu3]
        refine tk op9 (v:=?_) (by kernel_rfl) ?_ (by assumption) ?_ fun _ _ _ h=>h
        rotate_left
        ·(refine ya rfl fun w hSw=>?_;go_simp;rfl)
        try simp only[Act.put,pu1,pu2,pu3]
        refine rd1 (oq op0) (by kernel_rfl) fun K hK=>?_
        ((refine zq rfl 29 (.tmp 71) (.tmp 65) rfl (g:=gm) (off:=0) TX rfl rfl HDW.out F1.out tai.out tao.out ?_;intro wa ha;dsimp only))
        refine hK.out _ _ ?_ fun hHeld=>?_
        ·(try dsimp only)<;>((exact FS3.out _ _ ha (by simp) (by simp)))
        clear hK K
        try simp only[Act.put,pu1,pu2,pu3]
        refine tk (oq op1) (v:=?_) (by kernel_rfl) ?_ (by assumption) ?_ fun _ _ _ h=>h
        rotate_left
        ·(refine ya rfl fun w hSw=>?_;go_simp;rfl)
        try simp only[Act.put,pu1,pu2,pu3]
        refine tk (oq op2) (v:=?_) (by kernel_rfl) ?_ (by assumption) ?_ fun _ _ _ h=>h
        rotate_left
        ·(refine ya rfl fun w hSw=>?_;go_simp;rfl)
        try simp only[Act.put,pu1,pu2,pu3]
        refine rd1 (oq op3) (by kernel_rfl) fun K hK=>?_
        ((refine zq rfl 86 (.tmp 73) (.tmp 67) rfl (g:=gm) (off:=77) jl.toArray rfl rfl ha F2.out HJI2.out HJO.out ?_;intro wb hb;dsimp only))
        refine hK.out _ _ ?_ fun hHeld=>?_
        ·(try dsimp only)<;>((exact FS3.out _ _ hb (by simp) (by simp)))
        clear hK K
        try simp only[Act.put,pu1,pu2,pu3]
        refine tk (oq op4) (v:=?_) (by kernel_rfl) ?_ (by assumption) ?_ fun _ _ _ h=>h
        rotate_left
        ·(refine ya rfl fun w hSw=>?_;go_simp;rfl)
        try simp only[Act.put,pu1,pu2,pu3]
        refine tk (oq op5) (v:=?_) (by kernel_rfl) ?_ (by assumption) ?_ fun _ _ _ h=>h
        rotate_left
        ·(refine ya rfl fun w hSw=>?_;go_simp;rfl)
        try simp only[Act.put,pu1,pu2,pu3]
        refine rd1 (oq op6) (by kernel_rfl) fun K hK=>?_
        ((refine yw rfl 3 (.tmp 75) (.tmp 69) rfl (g:=gm) (off:=83) (.int .i64 bg) rfl rfl rfl hb F3.out I2.out rfl ?_;intro wf hf;dsimp only))
        refine hK.out _ _ ?_ fun hHeld=>?_
        ·(try dsimp only)<;>((exact FS3.out _ _ hf (by simp) (by simp)))
        clear hK K
        try simp only[Act.put,pu1,pu2,pu3]
        refine wpAnyH_done (by kernel_rfl) ?_ _;go_wp2_with fail;go_ret;exact FIN1.out _ hf
       ·have hne:(ae != 0)=true:=by simpa using h0
        have hres:RES=none:=by rw[HD2.out,if_neg h0]
        go_wp2_with fail;go_ret;exact FIN0.out hres _ ((b8,.cells (zv m.known R.1.l).1.cells 29 (0,0))::(L2++[(b,.cells AX 96 (0,0)),(g+1,.cells BX 54 (0,0)),(g,.cells EX 54 (0,0))])) (H5.out.perm ze)
end
end Go.Proofs.YtnjnooeldkideaaGreatDoor
