/- order: a job's entry. -/
import Derived.Test.YtnjnooeldkideaaGreatDoorMOrLd
import Derived.OwnWalk
import Derived.Deep.RegionHeld3
import Derived.Test.YtnjnooeldkideaaGreatDoorMOrT
namespace Go.Proofs.YtnjnooeldkideaaGreatDoor
set_option maxRecDepth 100000
set_option maxHeartbeats 8000000
set_option linter.unusedVariables false
set_option linter.unusedSimpArgs false
open Go.RowKit Go.Lib Go.Deep
section
variable {W w:World} {J:Nat→Option Obj} {t:Tb} {F:List (Nat × Obj)}
variable {m:Md} {gm:Nat} {nv:Value}
def bareF (e:En):En:=⟨e.kind,0,zC,zRy,e.store,e.state,e.fault,e.slot⟩
theorem run_build_bareF (e:En) (ok:e.Ok) (w:World):(Instr.build 54 #[(0,.int .i64 e.kind),(4,.int .i64 e.store),(5,.int .i64 e.state),(6,.int .i64 e.fault),(7,.agg e.slot.cells)]).run Tryz.prog w=.ok (.agg (bareF e).cells) w:=by
 obtain⟨ki,se,ca,re,so,sa,fa,⟨st,tr,ver,sz,ds⟩⟩:=e;have h0:=ok.slot.dig;simp only at h0;obtain⟨d0,d1,d2,d3,d4,d5,d6,d7,d8,d9,d10,d11,d12,d13,d14,d15,d16,d17,d18,d19,d20,d21,d22,d23,d24,d25,d26,d27,d28,d29,d30,d31,rfl⟩:=jv ds h0;exact run_build w _ _ _ (by kernel_rfl)
theorem zC_ok:zC.Ok:=⟨by decide,by decide,by decide,by decide,by decide,by decide,by decide,by decide,by decide⟩
theorem bareF_ok {e:En} (ok:e.Ok):(bareF e).Ok:=⟨ok.k0,ok.k1,by show -9223372036854775808≤0;decide,by show 0≤9223372036854775807;decide,zC_ok,jx 0 (by decide) (by decide),ok.o0,ok.o1,ok.t0,ok.t1,ok.f0,ok.f1,ok.slot⟩
theorem uh (x y:Slt) (okx:x.Ok) (oky:y.Ok) (w:World):(Op.equalIn 10000 26 (.agg x.cells) (.agg y.cells)).run Tryz.prog w=.ok (eqS x y) w:=by
 obtain⟨r,h1,h2⟩:=zbe (t:=26) 10 (by omega) (by kernel_rfl) (by kernel_rfl) 10 (ks:=slotK) (by kernel_rfl) (by kernel_rfl) (ud x okx) (ud y oky) w;rw[h1]
 have hb:r=eqS x y:=by
  rw[Bool.eq_iff_iff,za4,h2];exact⟨fun h=>Slt.inj h,fun h=>by rw[h]⟩
 rw[hb]
theorem jr (w:World):(Instr.build 26 #[]).run Tryz.prog w=.ok (.agg zS.cells) w:=run_build w _ _ _ (by kernel_rfl)
def yr (m:Md) (e:En):Md:={ m with job:={ m.job with live:=false,state:=e.state,fault:=e.fault } }
def endedM (m:Md) (e:En):Option Md:=
 if eqEn e (bareF e)=true∧m.job.live=true then
  (if e.state=2 then (if e.fault=0∧e.store=0 then (landsM m e.slot).map (fun x=>yr x e) else none)
   else if e.state=3 then (if eqS e.slot zS=false∨e.fault=0∨keptB e.store=false∨(e.store≠0∧e.store≠e.fault) then none else some (yr m e)) else none) else none
theorem Md.put_close {m:Md} (ok:m.known.Ok) (v:Value) (e:En):zg (zg (zg (m.cells v) 80 [.bool false]) 78 [.int .i64 e.state]) 79 [.int .i64 e.fault]=(yr m e).cells v:=by
 have h:=Tb.size ok;have e1:=yb (m.known.cells.toList++[v,Value.int .i64 m.tries,.int .i64 m.job.number,.int .i64 m.job.state,.int .i64 m.job.fault]) [.bool m.job.live] [.bool false] [.int .i64 m.job.slot,.int .u64 m.job.floor,.int .i64 m.began] rfl
 have hl1:(m.known.cells.toList++[v,Value.int .i64 m.tries,.int .i64 m.job.number,.int .i64 m.job.state,.int .i64 m.job.fault]).length=80:=by simp[h]
 have e2:=yb (m.known.cells.toList++[v,Value.int .i64 m.tries,.int .i64 m.job.number]) [.int .i64 m.job.state] [.int .i64 e.state] [.int .i64 m.job.fault,.bool false,.int .i64 m.job.slot,.int .u64 m.job.floor,.int .i64 m.began] rfl
 have hl2:(m.known.cells.toList++[v,Value.int .i64 m.tries,.int .i64 m.job.number]).length=78:=by simp[h]
 have e3:=yb (m.known.cells.toList++[v,Value.int .i64 m.tries,.int .i64 m.job.number,.int .i64 e.state]) [.int .i64 m.job.fault] [.int .i64 e.fault] [.bool false,.int .i64 m.job.slot,.int .u64 m.job.floor,.int .i64 m.began] rfl
 have hl3:(m.known.cells.toList++[v,Value.int .i64 m.tries,.int .i64 m.job.number,.int .i64 e.state]).length=79:=by simp[h]
 rw[hl1,List.append_assoc,List.append_assoc]at e1;rw[hl2,List.append_assoc,List.append_assoc]at e2;rw[hl3,List.append_assoc,List.append_assoc]at e3;have e1':zg (m.cells v) 80 [.bool false]=_:=e1;rw[e1'];have e2':zg (m.known.cells.toList++([v,Value.int .i64 m.tries,Value.int .i64 m.job.number,Value.int .i64 m.job.state,Value.int .i64 m.job.fault]++([Value.bool false]++[Value.int .i64 m.job.slot,Value.int .u64 m.job.floor,Value.int .i64 m.began]))).toArray 78 [.int .i64 e.state]=_:=e2;rw[e2'];exact e3
theorem landsM_ok {m:Md} (ok:m.Ok) (s:Slt) (sok:s.Ok):((landsM m s).getD m).Ok:=by
 unfold landsM
 repeat' split
 ·exact ok
 ·have ff:=zaf (t:=m.known) m.job.slot s sok ok.job.l0 ok.job.l1
  exact⟨qa ok.known ff.1,ok.t0,ok.t1,ok.job,ok.b0,ok.b1⟩
 ·exact ok
 ·exact ok
theorem o_ended (ok:m.Ok) (e:En) (eok:e.Ok) (h:St W w J ((gm,.cells (m.cells nv) 88 (0,0))::F)) :
  Calls Tryz.prog 37 #[.pointer (some ⟨gm,0,none⟩),e.val] w fun e' w'=>e'=.returned (.bool (endedM m e).isSome)∧St W w' J ((gm,.cells (((endedM m e).getD m).cells nv) 88 (0,0))::F):=by
 have bok:=bareF_ok eok;have h1:=h.alloc (.cells e.cells 54);obtain⟨g,hg⟩:∃g,w.heap.size=g:=⟨_,rfl⟩;rw[hg]at h1;have ea:=h1.en eok (List.mem_cons_self ..);have h1':=(h1.alloc (.cells Tryz.zeroCells54 54));rw[World.size_alloc,hg]at h1';have e0:=ea.kind;have e87:=ea.store;have e88:=ea.state;have e89:=ea.fault;have er9:=ea.slot;have bz:=run_build_bareF e eok;have bsz:=En.size bok;have bai:=qk bok;have bao:=En.one (bareF e);have eai:=qk eok;have si:=yg eok.slot;have heq:=run_eq_en e (bareF e) eok bok;have heqs:=uh e.slot zS eok.slot zS_ok;have zbs:=jr
 have kl:=fun(v:World) (X:List (Nat × Obj)) (hv:St W v J ((gm,.cells (m.cells nv) 88 (0,0))::X))=>o_lands ok e.slot eok.slot hv
 have lok:=landsM_ok ok e.slot eok.slot
 have mlive:=fun(v:World) (X:List (Nat × Obj)) (hv:St W v J X) (hx:(gm,Obj.cells (m.cells nv) 88 (0,0))∈X)=>(hv.md ok hx).live
 have hD:endedM m e=if eqEn e (bareF e)=true∧m.job.live=true then
  (if e.state=2 then (if e.fault=0∧e.store=0 then (landsM m e.slot).map (fun x=>yr x e) else none)
   else if e.state=3 then (if eqS e.slot zS=false∨e.fault=0∨keptB e.store=false∨(e.store≠0∧e.store≠e.fault) then none else some (yr m e)) else none) else none:=rfl
 generalize endedM m e=RES at *
 have fs:=fun(v:World) (X:List (Nat × Obj)) (hv:St W v J X) (hx:(g,Obj.cells e.cells 54 (0,0))∈X)=>(⟨(hv.en eok hx).state,(hv.en eok hx).fault,(hv.en eok hx).slot⟩:v.cell? ⟨g,88,none⟩=some (.int .i64 e.state)∧v.cell? ⟨g,89,none⟩=some (.int .i64 e.fault)∧v.rangeAt g 90 e.slot.cells.toList)
 have fst:=fun(v:World) (X:List (Nat × Obj)) (hv:St W v J X) (hx:(g,Obj.cells e.cells 54 (0,0))∈X)=>(⟨(hv.en eok hx).store,(hv.en eok hx).all⟩:v.cell? ⟨g,87,none⟩=some (.int .i64 e.store)∧v.rangeAt g 0 e.cells.toList)
 have fin0:RES=none→∀(v:World) (X:List (Nat × Obj)),St W v J (X++((gm,.cells (m.cells nv) 88 (0,0))::F))→(Ending.returned (.bool false)=.returned (.bool RES.isSome)∧St W v J ((gm,.cells ((RES.getD m).cells nv) 88 (0,0))::F)):=fun hn v X hv=>by
  subst hn;exact⟨rfl,hv.weaken⟩
 have fin1:∀m':Md,m'.known.Ok→RES=some (yr m' e)→∀(v:World) (D:List (Nat × Obj)),St W v J ((gm,.cells (zg (zg (zg (m'.cells nv) 80 [.bool false]) 78 [.int .i64 e.state]) 79 [.int .i64 e.fault]) 88 (0,0))::(D++F))→(Ending.returned (.bool true)=.returned (.bool RES.isSome)∧St W v J ((gm,.cells ((RES.getD m).cells nv) 88 (0,0))::F)):=fun m' mok hn v D hv=>by
  subst hn;refine⟨rfl,?_⟩;rw[Option.getD_some];rw[Md.put_close mok nv e]at hv;exact hv.keep D
 have msz0:=fun(m':Md) (mok:m'.known.Ok)=>Md.size mok nv
 generalize hLM:landsM m e.slot=LM at *;unfold En.val Slt.val at *;obtain⟨eb,heb⟩:∃b,eqEn e (bareF e)=b:=⟨_,rfl⟩;obtain⟨lv,hlv⟩:∃b,m.job.live=b:=⟨_,rfl⟩;obtain⟨sb,hsb⟩:∃b,eqS e.slot zS=b:=⟨_,rfl⟩;obtain⟨kb,hkb⟩:∃b,keptB e.store=b:=⟨_,rfl⟩;rw[heb]at heq hD;rw[hlv]at mlive hD;rw[hsb]at heqs hD;rw[hkb]at hD;obtain⟨EX,hEX⟩:∃y,e.cells=y:=⟨_,rfl⟩;obtain⟨BX,hBX⟩:∃y,(bareF e).cells=y:=⟨_,rfl⟩;obtain⟨SX,hSX⟩:∃y,e.slot.cells=y:=⟨_,rfl⟩;obtain⟨ZX,hZX⟩:∃y,zS.cells=y:=⟨_,rfl⟩;obtain⟨stt,hstt⟩:∃y,e.state=y:=⟨_,rfl⟩;obtain⟨flt,hflt⟩:∃y,e.fault=y:=⟨_,rfl⟩;obtain⟨sto,hsto⟩:∃y,e.store=y:=⟨_,rfl⟩;rw[hEX]at h1 h1' e0 e87 e88 e89 er9 eai heq fs fst ⊢;rw[hBX]at bz bsz bai bao heq;rw[hSX]at er9 bz si heqs fs kl;rw[hZX]at heqs zbs;rw[hstt]at e88 bz fs hD fin1;rw[hflt]at e89 bz fs hD fin1;rw[hsto]at e87 bz fst hD hkb
 have bfit:0+BX.size≤Tryz.zeroCells54.size:=by rw[bsz,zent];omega
 have bmany:zg Tryz.zeroCells54 0 BX.toList=BX:=by rw[zd _ _ (by rw[Array.length_toList,bsz,zent]),Array.toArray_toList]
 have H1:=za h1';have HBZ:=za bz;have BAI:=za bai;have BAO:=za bao;have BFIT:=za bfit;have BMANY:=za bmany;have EAI:=za eai;have SI:=za si;have ER9:=za er9;have HZB:=za zbs;have KL:=za kl;have HD:=za hD;have FSx:=za fs;have FST:=za fst;have FIN0:=za fin0;have FIN1:=za fin1;have LOK:=za lok;have MLV:=za mlive;have HKB:=za hkb;have MSZ:=za msz0;have HOK:=za ok;have I1:Hid ((Tryz.prog.info? 4).map (·.size)=some 1):=za (by kernel_rfl);have I3:Hid ((Tryz.prog.info? 37).map (·.size)=some 1):=za (by kernel_rfl);have I2:Hid ((Tryz.prog.info? 3).map (·.size)=some 1):=za (by kernel_rfl);clear h1' h1 h bz bai bao bfit bmany eai si er9 zbs kl hD fs fst fin0 fin1 lok mlive hkb msz0 ea bok ok eok heb hlv hsb hEX hBX hSX hZX hstt hflt hsto bsz hLM
 go_enter Tryz.func37,Tryz.ntmps37
 go_wp2_with (first|(with_reducible refine zb 15 rfl (by kernel_rfl) 26 (.tmp 14) rfl g 90 rfl SX _ ER9.out Tryz.underlying26 rfl SI.out ?_)|(with_reducible refine zh rfl 54 _ rfl _ ?_ (HBZ.out _) ?_;·go_simp)|(with_reducible refine zc rfl 54 (.tmp 5) (.tmp 16) rfl (g:=g+1) (off:=0) BX rfl rfl H1.out BFIT.out BAI.out BAO.out ?_;intro w2 h2;refine Hid.out ?_))
 refine za ?_;rw[BMANY.out]at h2;have RA:Hid (w2.rangeAt g 0 EX.toList):=za (FST.out _ _ h2 (by simp)).2;have RB:Hid (w2.rangeAt (g+1) 0 BX.toList):=za (fun j u hj=>by rw[Nat.zero_add,h2.cell (g:=g+1) (cs:=BX) (t:=54) (fr:=(0,0)) (List.mem_cons_self ..) j];simpa using hj);have R9:=za (FSx.out _ _ h2 (by simp)).2.2;obtain⟨c88,c89,-⟩:=FSx.out _ _ h2 (by simp);obtain⟨c87,-⟩:=FST.out _ _ h2 (by simp);have c80:=MLV.out _ _ h2 (by simp);have H2:=za h2;clear h2 H1 ER9 e0 e87 e88 e89 HBZ
 cases eb with
 | false=>
  go_wp2_with (first|(with_reducible refine zb 17 rfl (by kernel_rfl) 54 (.tmp 3) rfl g 0 rfl EX _ RA.out Tryz.underlying54 rfl EAI.out ?_)|(with_reducible refine zb 18 rfl (by kernel_rfl) 54 (.tmp 5) rfl (g+1) 0 rfl BX _ RB.out Tryz.underlying54 rfl BAI.out ?_))
  go_ret;exact FIN0.out (by rw[HD.out];simp_all) _ [_,_] H2.out
 | true=>
  cases lv with
  | false=>
   go_wp2_with (first|(with_reducible refine zb 17 rfl (by kernel_rfl) 54 (.tmp 3) rfl g 0 rfl EX _ RA.out Tryz.underlying54 rfl EAI.out ?_)|(with_reducible refine zb 18 rfl (by kernel_rfl) 54 (.tmp 5) rfl (g+1) 0 rfl BX _ RB.out Tryz.underlying54 rfl BAI.out ?_))
   go_ret;exact FIN0.out (by rw[HD.out];simp_all) _ [_,_] H2.out
  | true=>
   have HD2:Hid (RES=if stt=2 then (if flt=0∧sto=0 then LM.map (fun x=>yr x e) else none) else if stt=3 then (if sb=false∨flt=0∨kb=false∨(sto≠0∧sto≠flt) then none else some (yr m e)) else none):=za (by rw[HD.out];simp);clear HD
   by_cases h2:stt=2
   ·subst h2
    have HD:Hid (RES=if flt=0∧sto=0 then LM.map (fun x=>yr x e) else none):=za (by rw[HD2.out,if_pos rfl]);clear HD2 heqs HZB
    by_cases hf0:flt=0
    ·subst hf0
     by_cases hs0:sto=0
     ·subst hs0
      have HD3:Hid (RES=LM.map (fun x=>yr x e)):=za (by rw[HD.out,if_pos ⟨rfl,rfl⟩]);have KL2:=za (KL.out _ ((g+1,.cells BX 54 (0,0))::(g,.cells EX 54 (0,0))::F) (H2.out.perm ze));clear HD KL
      go_wp2_with (first|(with_reducible refine zb 17 rfl (by kernel_rfl) 54 (.tmp 3) rfl g 0 rfl EX _ RA.out Tryz.underlying54 rfl EAI.out ?_)|(with_reducible refine zb 18 rfl (by kernel_rfl) 54 (.tmp 5) rfl (g+1) 0 rfl BX _ RB.out Tryz.underlying54 rfl BAI.out ?_)|(with_reducible refine zb 43 rfl (by kernel_rfl) 26 (.tmp 42) rfl g 90 rfl SX _ R9.out Tryz.underlying26 rfl SI.out ?_))
      refine KL2.out.mono ?_;rintro e' w3 ⟨rfl,h3⟩;clear KL2 H2 RA RB R9 c87 c88 c89 c80
      cases LM with
      | none=>
       rw[Option.getD_none]at h3;go_wp2_with fail;go_ret;exact FIN0.out (by rw[HD3.out];rfl) _ [(g+1,.cells BX 54 (0,0)),(g,.cells EX 54 (0,0))] (St.perm h3 ze)
      | some m'=>
       have mok:m'.Ok:=LOK.out;have FX:=za (fun(v:World) hv=>FIN1.out m' mok.known (by rw[HD3.out];rfl) v [(g+1,.cells BX 54 (0,0)),(g,.cells EX 54 (0,0))] hv);rw[Option.getD_some]at h3;have msz:=za (MSZ.out m' mok.known);obtain⟨MX,hMX⟩:∃y,m'.cells nv=y:=⟨_,rfl⟩;rw[hMX]at h3 msz FX;have H6:=za h3;clear h3 hMX mok LOK HD3 FIN0 FIN1 MSZ;rw[Option.isSome_some];have HDW:=za H6.out.drew1;have s1:=FSx.out _ _ HDW.out (by simp);have G1:Hid (80 < MX.size):=za (by rw[msz.out];omega);have G2:Hid (78 < (zg MX 80 [.bool false]).size):=za (by rw[yd,msz.out];omega);have G3:Hid (79 < (zg (zg MX 80 [.bool false]) 78 [.int .i64 2]).size):=za (by rw[yd,yd,msz.out];omega);clear H6 msz;go_wp2_with fail;refine wp_region_held_drew (S:=fun v=>v.cell? ⟨g,88,none⟩=some (.int .i64 2)∧v.cell? ⟨g,89,none⟩=some (.int .i64 0)∧v.rangeAt g 90 SX.toList) (by kernel_rfl) s1 (fun hHeld=>?_)
       refine tk op0 (v:=?_) (by kernel_rfl) ?_ (by assumption) ?_ fun _ _ _ h=>h
       rotate_left
       ·(refine ya rfl fun w hSw=>?_;go_simp;rfl)
       try simp only[Act.put,pu1,pu2,pu3]
       refine tk op1 (v:=?_) (by kernel_rfl) ?_ (by assumption) ?_ fun _ _ _ h=>h
       rotate_left
       ·(refine ya rfl fun w hSw=>?_;go_simp;rfl)
       try simp only[Act.put,pu1,pu2,pu3]
       refine tk op2 (v:=?_) (by kernel_rfl) ?_ (by assumption) ?_ fun _ _ _ h=>h
       rotate_left
       ·(refine ya rfl fun w hSw=>?_;go_simp;rfl)
       try simp only[Act.put,pu1,pu2,pu3]
       refine tk op3 (v:=?_) (by kernel_rfl) ?_ (by assumption) ?_ fun _ _ _ h=>h
       rotate_left
       ·(refine ya rfl fun w hSw=>?_;go_simp;rfl)
       try simp only[Act.put,pu1,pu2,pu3]
       refine tk op4 (v:=?_) (by kernel_rfl) ?_ (by assumption) ?_ fun _ _ _ h=>h
       rotate_left
       ·((refine Or.inl ⟨by rfl,?_⟩;intro w hSw;obtain⟨hS1,hS2,hS3⟩:=hSw;go_simp;try with_reducible rfl))
       try simp only[Act.put,pu1,pu2,pu3]
       refine tk op5 (v:=?_) (by kernel_rfl) ?_ (by assumption) ?_ fun _ _ _ h=>h
       rotate_left
       ·(refine ya rfl fun w hSw=>?_;go_simp;rfl)
       try simp only[Act.put,pu1,pu2,pu3]
       refine tk op6 (v:=?_) (by kernel_rfl) ?_ (by assumption) ?_ fun _ _ _ h=>h
       rotate_left
       ·((refine Or.inl ⟨by rfl,?_⟩;intro w hSw;obtain⟨hS1,hS2,hS3⟩:=hSw;go_simp;try with_reducible rfl))
       try simp only[Act.put,pu1,pu2,pu3]
       refine tk op7 (v:=?_) (by kernel_rfl) ?_ (by assumption) ?_ fun _ _ _ h=>h
       rotate_left
       ·(refine ya rfl fun w hSw=>?_;go_simp;rfl)
       try simp only[Act.put,pu1,pu2,pu3]
       refine tk op8 (v:=?_) (by kernel_rfl) ?_ (by assumption) ?_ fun _ _ _ h=>h
       rotate_left
       ·(refine ya rfl fun w hSw=>?_;go_simp;rfl)
       try simp only[Act.put,pu1,pu2,pu3]
       refine tk op9 (v:=?_) (by kernel_rfl) ?_ (by assumption) ?_ fun _ _ _ h=>h
       rotate_left
       ·(refine ya rfl fun w hSw=>?_;go_simp;rfl)
       try simp only[Act.put,pu1,pu2,pu3]
       refine rd1 (oq op0) (by kernel_rfl) fun K hK=>?_
       ((refine yw rfl 4 (.tmp 85) (.const (.bool false)) rfl (g:=gm) (off:=80) (.bool false) rfl rfl rfl HDW.out G1.out I1.out rfl ?_;intro wa ha;dsimp only))
       refine hK.out _ _ ?_ fun hHeld=>?_
       ·(try dsimp only)<;>((exact FSx.out _ _ ha (by simp)))
       clear hK K
       try simp only[Act.put,pu1,pu2,pu3]
       refine tk (oq op1) (v:=?_) (by kernel_rfl) ?_ (by assumption) ?_ fun _ _ _ h=>h
       rotate_left
       ·(refine ya rfl fun w hSw=>?_;go_simp;rfl)
       try simp only[Act.put,pu1,pu2,pu3]
       refine tk (oq op2) (v:=?_) (by kernel_rfl) ?_ (by assumption) ?_ fun _ _ _ h=>h
       rotate_left
       ·(refine ya rfl fun w hSw=>?_;go_simp;rfl)
       try simp only[Act.put,pu1,pu2,pu3]
       refine tk (oq op3) (v:=?_) (by kernel_rfl) ?_ (by assumption) ?_ fun _ _ _ h=>h
       rotate_left
       ·(refine ya rfl fun w hSw=>?_;go_simp;rfl)
       try simp only[Act.put,pu1,pu2,pu3]
       refine rd1 (oq op4) (by kernel_rfl) fun K hK=>?_
       ((refine yw rfl 3 (.tmp 88) (.tmp 80) rfl (g:=gm) (off:=78) (.int .i64 2) rfl rfl rfl ha G2.out I2.out rfl ?_;intro wb hb;dsimp only))
       refine hK.out _ _ ?_ fun hHeld=>?_
       ·(try dsimp only)<;>((exact FSx.out _ _ hb (by simp)))
       clear hK K
       try simp only[Act.put,pu1,pu2,pu3]
       refine tk (oq op5) (v:=?_) (by kernel_rfl) ?_ (by assumption) ?_ fun _ _ _ h=>h
       rotate_left
       ·(refine ya rfl fun w hSw=>?_;go_simp;rfl)
       try simp only[Act.put,pu1,pu2,pu3]
       refine tk (oq op6) (v:=?_) (by kernel_rfl) ?_ (by assumption) ?_ fun _ _ _ h=>h
       rotate_left
       ·(refine ya rfl fun w hSw=>?_;go_simp;rfl)
       try simp only[Act.put,pu1,pu2,pu3]
       refine tk (oq op7) (v:=?_) (by kernel_rfl) ?_ (by assumption) ?_ fun _ _ _ h=>h
       rotate_left
       ·(refine ya rfl fun w hSw=>?_;go_simp;rfl)
       try simp only[Act.put,pu1,pu2,pu3]
       refine rd1 (oq op8) (by kernel_rfl) fun K hK=>?_
       ((refine yw rfl 37 (.tmp 91) (.tmp 82) rfl (g:=gm) (off:=79) (.int .i64 0) rfl rfl rfl hb G3.out I3.out rfl ?_;intro wf hf;dsimp only))
       refine hK.out _ _ ?_ fun hHeld=>?_
       ·(try dsimp only)<;>((exact FSx.out _ _ hf (by simp)))
       clear hK K
       try simp only[Act.put,pu1,pu2,pu3]
       refine wpAnyH_done (by kernel_rfl) ?_ _;go_wp2_with fail;go_ret;exact FX.out _ hf
     ·have bs:(sto != 0)=true:=by simpa using hs0
      have hres:=za (show RES=none by rw[HD.out,if_neg (fun q=>hs0 q.2)])
      go_wp2_with (first|(with_reducible refine zb 17 rfl (by kernel_rfl) 54 (.tmp 3) rfl g 0 rfl EX _ RA.out Tryz.underlying54 rfl EAI.out ?_)|(with_reducible refine zb 18 rfl (by kernel_rfl) 54 (.tmp 5) rfl (g+1) 0 rfl BX _ RB.out Tryz.underlying54 rfl BAI.out ?_))
      go_ret;exact FIN0.out hres.out _ [_,_] H2.out
    ·have bf:(flt != 0)=true:=by simpa using hf0
     have hres:=za (show RES=none by rw[HD.out,if_neg (fun q=>hf0 q.1)])
     go_wp2_with (first|(with_reducible refine zb 17 rfl (by kernel_rfl) 54 (.tmp 3) rfl g 0 rfl EX _ RA.out Tryz.underlying54 rfl EAI.out ?_)|(with_reducible refine zb 18 rfl (by kernel_rfl) 54 (.tmp 5) rfl (g+1) 0 rfl BX _ RB.out Tryz.underlying54 rfl BAI.out ?_))
     go_ret;exact FIN0.out hres.out _ [_,_] H2.out
   ·have b2:(stt==2)=false:=by simpa using h2
    by_cases h3:stt=3
    ·subst h3
     have HD:Hid (RES=if sb=false∨flt=0∨kb=false∨(sto≠0∧sto≠flt) then none else some (yr m e)):=za (by rw[HD2.out,if_neg h2,if_pos rfl]);clear HD2 KL h2 b2 LOK
     cases sb with
     | false=>
      have hres:=za (show RES=none by rw[HD.out,if_pos (Or.inl rfl)])
      go_wp2_with (first|(with_reducible refine zb 17 rfl (by kernel_rfl) 54 (.tmp 3) rfl g 0 rfl EX _ RA.out Tryz.underlying54 rfl EAI.out ?_)|(with_reducible refine zb 18 rfl (by kernel_rfl) 54 (.tmp 5) rfl (g+1) 0 rfl BX _ RB.out Tryz.underlying54 rfl BAI.out ?_)|(with_reducible refine zb 50 rfl (by kernel_rfl) 26 (.tmp 49) rfl g 90 rfl SX _ R9.out Tryz.underlying26 rfl SI.out ?_)|(with_reducible refine zh rfl 26 _ rfl _ ?_ (HZB.out _) ?_;·go_simp))
      go_ret;exact FIN0.out hres.out _ [_,_] H2.out
     | true=>
      by_cases hf0:flt=0
      ·have hres:=za (show RES=none by rw[HD.out,if_pos (Or.inr (Or.inl hf0))])
       subst hf0
       go_wp2_with (first|(with_reducible refine zb 17 rfl (by kernel_rfl) 54 (.tmp 3) rfl g 0 rfl EX _ RA.out Tryz.underlying54 rfl EAI.out ?_)|(with_reducible refine zb 18 rfl (by kernel_rfl) 54 (.tmp 5) rfl (g+1) 0 rfl BX _ RB.out Tryz.underlying54 rfl BAI.out ?_)|(with_reducible refine zb 50 rfl (by kernel_rfl) 26 (.tmp 49) rfl g 90 rfl SX _ R9.out Tryz.underlying26 rfl SI.out ?_)|(with_reducible refine zh rfl 26 _ rfl _ ?_ (HZB.out _) ?_;·go_simp))
       go_ret;exact FIN0.out hres.out _ [_,_] H2.out
      ·have bf:(flt==0)=false:=by simpa using hf0
       cases kb with
       | false=>
        have hres:=za (show RES=none by rw[HD.out,if_pos (Or.inr (Or.inr (Or.inl rfl)))])
        go_wp2_with (first|(with_reducible refine zb 17 rfl (by kernel_rfl) 54 (.tmp 3) rfl g 0 rfl EX _ RA.out Tryz.underlying54 rfl EAI.out ?_)|(with_reducible refine zb 18 rfl (by kernel_rfl) 54 (.tmp 5) rfl (g+1) 0 rfl BX _ RB.out Tryz.underlying54 rfl BAI.out ?_)|(with_reducible refine zb 50 rfl (by kernel_rfl) 26 (.tmp 49) rfl g 90 rfl SX _ R9.out Tryz.underlying26 rfl SI.out ?_)|(with_reducible refine zh rfl 26 _ rfl _ ?_ (HZB.out _) ?_;·go_simp)|(go_at_call 67;(with_reducible refine(zaj _ _).mono ?_);rintro e wq ⟨rfl,rfl⟩;rw[HKB.out]))
        go_ret;exact FIN0.out hres.out _ [_,_] H2.out
       | true=>
        by_cases hs0:sto=0
        ·have hres:=za (show RES=some (yr m e) by rw[HD.out,if_neg (by rintro(q|q|q|q);cases q;exact hf0 q;cases q;exact q.1 hs0)])
         subst hs0;clear HD bf
         have bf:(flt==0)=false:=by simpa using hf0
         go_wp2_with (first|(with_reducible refine zb 17 rfl (by kernel_rfl) 54 (.tmp 3) rfl g 0 rfl EX _ RA.out Tryz.underlying54 rfl EAI.out ?_)|(with_reducible refine zb 18 rfl (by kernel_rfl) 54 (.tmp 5) rfl (g+1) 0 rfl BX _ RB.out Tryz.underlying54 rfl BAI.out ?_)|(with_reducible refine zb 50 rfl (by kernel_rfl) 26 (.tmp 49) rfl g 90 rfl SX _ R9.out Tryz.underlying26 rfl SI.out ?_)|(with_reducible refine zh rfl 26 _ rfl _ ?_ (HZB.out _) ?_;·go_simp)|(go_at_call 67;(with_reducible refine(zaj _ _).mono ?_);rintro e wq ⟨rfl,rfl⟩;rw[HKB.out]))
         have FX:=za (fun(v:World) hv=>FIN1.out m HOK.out.known hres.out v [(g+1,.cells BX 54 (0,0)),(g,.cells EX 54 (0,0))] hv);have msz:=za (MSZ.out m HOK.out.known);obtain⟨MX,hMX⟩:∃y,m.cells nv=y:=⟨_,rfl⟩;rw[hMX]at H2 msz FX;have H6:=za (H2.out.perm (L':=(gm,.cells MX 88 (0,0))::(g+1,.cells BX 54 (0,0))::(g,.cells EX 54 (0,0))::F) ze);clear H2 hMX hres FIN0 FIN1 MSZ;have HDW:=za H6.out.drew1;have s1:=FSx.out _ _ HDW.out (by simp);have G1:Hid (80 < MX.size):=za (by rw[msz.out];omega);have G2:Hid (78 < (zg MX 80 [.bool false]).size):=za (by rw[yd,msz.out];omega);have G3:Hid (79 < (zg (zg MX 80 [.bool false]) 78 [.int .i64 3]).size):=za (by rw[yd,yd,msz.out];omega);clear H6 msz;go_wp2_with fail;refine wp_region_held_drew (S:=fun v=>v.cell? ⟨g,88,none⟩=some (.int .i64 3)∧v.cell? ⟨g,89,none⟩=some (.int .i64 flt)∧v.rangeAt g 90 SX.toList) (by kernel_rfl) s1 (fun hHeld=>?_)
         refine tk op0 (v:=?_) (by kernel_rfl) ?_ (by assumption) ?_ fun _ _ _ h=>h
         rotate_left
         ·(refine ya rfl fun w hSw=>?_;go_simp;rfl)
         try simp only[Act.put,pu1,pu2,pu3]
         refine tk op1 (v:=?_) (by kernel_rfl) ?_ (by assumption) ?_ fun _ _ _ h=>h
         rotate_left
         ·(refine ya rfl fun w hSw=>?_;go_simp;rfl)
         try simp only[Act.put,pu1,pu2,pu3]
         refine tk op2 (v:=?_) (by kernel_rfl) ?_ (by assumption) ?_ fun _ _ _ h=>h
         rotate_left
         ·(refine ya rfl fun w hSw=>?_;go_simp;rfl)
         try simp only[Act.put,pu1,pu2,pu3]
         refine tk op3 (v:=?_) (by kernel_rfl) ?_ (by assumption) ?_ fun _ _ _ h=>h
         rotate_left
         ·(refine ya rfl fun w hSw=>?_;go_simp;rfl)
         try simp only[Act.put,pu1,pu2,pu3]
         refine tk op4 (v:=?_) (by kernel_rfl) ?_ (by assumption) ?_ fun _ _ _ h=>h
         rotate_left
         ·((refine Or.inl ⟨by rfl,?_⟩;intro w hSw;obtain⟨hS1,hS2,hS3⟩:=hSw;go_simp;try with_reducible rfl))
         try simp only[Act.put,pu1,pu2,pu3]
         refine tk op5 (v:=?_) (by kernel_rfl) ?_ (by assumption) ?_ fun _ _ _ h=>h
         rotate_left
         ·(refine ya rfl fun w hSw=>?_;go_simp;rfl)
         try simp only[Act.put,pu1,pu2,pu3]
         refine tk op6 (v:=?_) (by kernel_rfl) ?_ (by assumption) ?_ fun _ _ _ h=>h
         rotate_left
         ·((refine Or.inl ⟨by rfl,?_⟩;intro w hSw;obtain⟨hS1,hS2,hS3⟩:=hSw;go_simp;try with_reducible rfl))
         try simp only[Act.put,pu1,pu2,pu3]
         refine tk op7 (v:=?_) (by kernel_rfl) ?_ (by assumption) ?_ fun _ _ _ h=>h
         rotate_left
         ·(refine ya rfl fun w hSw=>?_;go_simp;rfl)
         try simp only[Act.put,pu1,pu2,pu3]
         refine tk op8 (v:=?_) (by kernel_rfl) ?_ (by assumption) ?_ fun _ _ _ h=>h
         rotate_left
         ·(refine ya rfl fun w hSw=>?_;go_simp;rfl)
         try simp only[Act.put,pu1,pu2,pu3]
         refine tk op9 (v:=?_) (by kernel_rfl) ?_ (by assumption) ?_ fun _ _ _ h=>h
         rotate_left
         ·(refine ya rfl fun w hSw=>?_;go_simp;rfl)
         try simp only[Act.put,pu1,pu2,pu3]
         refine rd1 (oq op0) (by kernel_rfl) fun K hK=>?_
         ((refine yw rfl 4 (.tmp 85) (.const (.bool false)) rfl (g:=gm) (off:=80) (.bool false) rfl rfl rfl HDW.out G1.out I1.out rfl ?_;intro wa ha;dsimp only))
         refine hK.out _ _ ?_ fun hHeld=>?_
         ·(try dsimp only)<;>((exact FSx.out _ _ ha (by simp)))
         clear hK K
         try simp only[Act.put,pu1,pu2,pu3]
         refine tk (oq op1) (v:=?_) (by kernel_rfl) ?_ (by assumption) ?_ fun _ _ _ h=>h
         rotate_left
         ·(refine ya rfl fun w hSw=>?_;go_simp;rfl)
         try simp only[Act.put,pu1,pu2,pu3]
         refine tk (oq op2) (v:=?_) (by kernel_rfl) ?_ (by assumption) ?_ fun _ _ _ h=>h
         rotate_left
         ·(refine ya rfl fun w hSw=>?_;go_simp;rfl)
         try simp only[Act.put,pu1,pu2,pu3]
         refine tk (oq op3) (v:=?_) (by kernel_rfl) ?_ (by assumption) ?_ fun _ _ _ h=>h
         rotate_left
         ·(refine ya rfl fun w hSw=>?_;go_simp;rfl)
         try simp only[Act.put,pu1,pu2,pu3]
         refine rd1 (oq op4) (by kernel_rfl) fun K hK=>?_
         ((refine yw rfl 3 (.tmp 88) (.tmp 80) rfl (g:=gm) (off:=78) (.int .i64 3) rfl rfl rfl ha G2.out I2.out rfl ?_;intro wb hb;dsimp only))
         refine hK.out _ _ ?_ fun hHeld=>?_
         ·(try dsimp only)<;>((exact FSx.out _ _ hb (by simp)))
         clear hK K
         try simp only[Act.put,pu1,pu2,pu3]
         refine tk (oq op5) (v:=?_) (by kernel_rfl) ?_ (by assumption) ?_ fun _ _ _ h=>h
         rotate_left
         ·(refine ya rfl fun w hSw=>?_;go_simp;rfl)
         try simp only[Act.put,pu1,pu2,pu3]
         refine tk (oq op6) (v:=?_) (by kernel_rfl) ?_ (by assumption) ?_ fun _ _ _ h=>h
         rotate_left
         ·(refine ya rfl fun w hSw=>?_;go_simp;rfl)
         try simp only[Act.put,pu1,pu2,pu3]
         refine tk (oq op7) (v:=?_) (by kernel_rfl) ?_ (by assumption) ?_ fun _ _ _ h=>h
         rotate_left
         ·(refine ya rfl fun w hSw=>?_;go_simp;rfl)
         try simp only[Act.put,pu1,pu2,pu3]
         refine rd1 (oq op8) (by kernel_rfl) fun K hK=>?_
         ((refine yw rfl 37 (.tmp 91) (.tmp 82) rfl (g:=gm) (off:=79) (.int .i64 flt) rfl rfl rfl hb G3.out I3.out rfl ?_;intro wf hf;dsimp only))
         refine hK.out _ _ ?_ fun hHeld=>?_
         ·(try dsimp only)<;>((exact FSx.out _ _ hf (by simp)))
         clear hK K
         try simp only[Act.put,pu1,pu2,pu3]
         refine wpAnyH_done (by kernel_rfl) ?_ _;go_wp2_with fail;go_ret;exact FX.out _ hf
        ·have bs:(sto != 0)=true:=by simpa using hs0
         by_cases hsf:sto=flt
         ·have hres:=za (show RES=some (yr m e) by rw[HD.out,if_neg (by rintro(q|q|q|q);cases q;exact hf0 q;cases q;exact q.2 hsf)])
          have bsf:(sto != flt)=false:=by simpa using hsf
          clear HD hsf
          go_wp2_with (first|(with_reducible refine zb 17 rfl (by kernel_rfl) 54 (.tmp 3) rfl g 0 rfl EX _ RA.out Tryz.underlying54 rfl EAI.out ?_)|(with_reducible refine zb 18 rfl (by kernel_rfl) 54 (.tmp 5) rfl (g+1) 0 rfl BX _ RB.out Tryz.underlying54 rfl BAI.out ?_)|(with_reducible refine zb 50 rfl (by kernel_rfl) 26 (.tmp 49) rfl g 90 rfl SX _ R9.out Tryz.underlying26 rfl SI.out ?_)|(with_reducible refine zh rfl 26 _ rfl _ ?_ (HZB.out _) ?_;·go_simp)|(go_at_call 67;(with_reducible refine(zaj _ _).mono ?_);rintro e wq ⟨rfl,rfl⟩;rw[HKB.out]))
          have FX:=za (fun(v:World) hv=>FIN1.out m HOK.out.known hres.out v [(g+1,.cells BX 54 (0,0)),(g,.cells EX 54 (0,0))] hv);have msz:=za (MSZ.out m HOK.out.known);obtain⟨MX,hMX⟩:∃y,m.cells nv=y:=⟨_,rfl⟩;rw[hMX]at H2 msz FX;have H6:=za (H2.out.perm (L':=(gm,.cells MX 88 (0,0))::(g+1,.cells BX 54 (0,0))::(g,.cells EX 54 (0,0))::F) ze);clear H2 hMX hres FIN0 FIN1 MSZ;have HDW:=za H6.out.drew1;have s1:=FSx.out _ _ HDW.out (by simp);have G1:Hid (80 < MX.size):=za (by rw[msz.out];omega);have G2:Hid (78 < (zg MX 80 [.bool false]).size):=za (by rw[yd,msz.out];omega);have G3:Hid (79 < (zg (zg MX 80 [.bool false]) 78 [.int .i64 3]).size):=za (by rw[yd,yd,msz.out];omega);clear H6 msz;go_wp2_with fail;refine wp_region_held_drew (S:=fun v=>v.cell? ⟨g,88,none⟩=some (.int .i64 3)∧v.cell? ⟨g,89,none⟩=some (.int .i64 flt)∧v.rangeAt g 90 SX.toList) (by kernel_rfl) s1 (fun hHeld=>?_)
          refine tk op0 (v:=?_) (by kernel_rfl) ?_ (by assumption) ?_ fun _ _ _ h=>h
          rotate_left
          ·(refine ya rfl fun w hSw=>?_;go_simp;rfl)
          try simp only[Act.put,pu1,pu2,pu3]
          refine tk op1 (v:=?_) (by kernel_rfl) ?_ (by assumption) ?_ fun _ _ _ h=>h
          rotate_left
          ·(refine ya rfl fun w hSw=>?_;go_simp;rfl)
          try simp only[Act.put,pu1,pu2,pu3]
          refine tk op2 (v:=?_) (by kernel_rfl) ?_ (by assumption) ?_ fun _ _ _ h=>h
          rotate_left
          ·(refine ya rfl fun w hSw=>?_;go_simp;rfl)
          try simp only[Act.put,pu1,pu2,pu3]
          refine tk op3 (v:=?_) (by kernel_rfl) ?_ (by assumption) ?_ fun _ _ _ h=>h
          rotate_left
          ·(refine ya rfl fun w hSw=>?_;go_simp;rfl)
          try simp only[Act.put,pu1,pu2,pu3]
          refine tk op4 (v:=?_) (by kernel_rfl) ?_ (by assumption) ?_ fun _ _ _ h=>h
          rotate_left
          ·((refine Or.inl ⟨by rfl,?_⟩;intro w hSw;obtain⟨hS1,hS2,hS3⟩:=hSw;go_simp;try with_reducible rfl))
          try simp only[Act.put,pu1,pu2,pu3]
          refine tk op5 (v:=?_) (by kernel_rfl) ?_ (by assumption) ?_ fun _ _ _ h=>h
          rotate_left
          ·(refine ya rfl fun w hSw=>?_;go_simp;rfl)
          try simp only[Act.put,pu1,pu2,pu3]
          refine tk op6 (v:=?_) (by kernel_rfl) ?_ (by assumption) ?_ fun _ _ _ h=>h
          rotate_left
          ·((refine Or.inl ⟨by rfl,?_⟩;intro w hSw;obtain⟨hS1,hS2,hS3⟩:=hSw;go_simp;try with_reducible rfl))
          try simp only[Act.put,pu1,pu2,pu3]
          refine tk op7 (v:=?_) (by kernel_rfl) ?_ (by assumption) ?_ fun _ _ _ h=>h
          rotate_left
          ·(refine ya rfl fun w hSw=>?_;go_simp;rfl)
          try simp only[Act.put,pu1,pu2,pu3]
          refine tk op8 (v:=?_) (by kernel_rfl) ?_ (by assumption) ?_ fun _ _ _ h=>h
          rotate_left
          ·(refine ya rfl fun w hSw=>?_;go_simp;rfl)
          try simp only[Act.put,pu1,pu2,pu3]
          refine tk op9 (v:=?_) (by kernel_rfl) ?_ (by assumption) ?_ fun _ _ _ h=>h
          rotate_left
          ·(refine ya rfl fun w hSw=>?_;go_simp;rfl)
          try simp only[Act.put,pu1,pu2,pu3]
          refine rd1 (oq op0) (by kernel_rfl) fun K hK=>?_
          ((refine yw rfl 4 (.tmp 85) (.const (.bool false)) rfl (g:=gm) (off:=80) (.bool false) rfl rfl rfl HDW.out G1.out I1.out rfl ?_;intro wa ha;dsimp only))
          refine hK.out _ _ ?_ fun hHeld=>?_
          ·(try dsimp only)<;>((exact FSx.out _ _ ha (by simp)))
          clear hK K
          try simp only[Act.put,pu1,pu2,pu3]
          refine tk (oq op1) (v:=?_) (by kernel_rfl) ?_ (by assumption) ?_ fun _ _ _ h=>h
          rotate_left
          ·(refine ya rfl fun w hSw=>?_;go_simp;rfl)
          try simp only[Act.put,pu1,pu2,pu3]
          refine tk (oq op2) (v:=?_) (by kernel_rfl) ?_ (by assumption) ?_ fun _ _ _ h=>h
          rotate_left
          ·(refine ya rfl fun w hSw=>?_;go_simp;rfl)
          try simp only[Act.put,pu1,pu2,pu3]
          refine tk (oq op3) (v:=?_) (by kernel_rfl) ?_ (by assumption) ?_ fun _ _ _ h=>h
          rotate_left
          ·(refine ya rfl fun w hSw=>?_;go_simp;rfl)
          try simp only[Act.put,pu1,pu2,pu3]
          refine rd1 (oq op4) (by kernel_rfl) fun K hK=>?_
          ((refine yw rfl 3 (.tmp 88) (.tmp 80) rfl (g:=gm) (off:=78) (.int .i64 3) rfl rfl rfl ha G2.out I2.out rfl ?_;intro wb hb;dsimp only))
          refine hK.out _ _ ?_ fun hHeld=>?_
          ·(try dsimp only)<;>((exact FSx.out _ _ hb (by simp)))
          clear hK K
          try simp only[Act.put,pu1,pu2,pu3]
          refine tk (oq op5) (v:=?_) (by kernel_rfl) ?_ (by assumption) ?_ fun _ _ _ h=>h
          rotate_left
          ·(refine ya rfl fun w hSw=>?_;go_simp;rfl)
          try simp only[Act.put,pu1,pu2,pu3]
          refine tk (oq op6) (v:=?_) (by kernel_rfl) ?_ (by assumption) ?_ fun _ _ _ h=>h
          rotate_left
          ·(refine ya rfl fun w hSw=>?_;go_simp;rfl)
          try simp only[Act.put,pu1,pu2,pu3]
          refine tk (oq op7) (v:=?_) (by kernel_rfl) ?_ (by assumption) ?_ fun _ _ _ h=>h
          rotate_left
          ·(refine ya rfl fun w hSw=>?_;go_simp;rfl)
          try simp only[Act.put,pu1,pu2,pu3]
          refine rd1 (oq op8) (by kernel_rfl) fun K hK=>?_
          ((refine yw rfl 37 (.tmp 91) (.tmp 82) rfl (g:=gm) (off:=79) (.int .i64 flt) rfl rfl rfl hb G3.out I3.out rfl ?_;intro wf hf;dsimp only))
          refine hK.out _ _ ?_ fun hHeld=>?_
          ·(try dsimp only)<;>((exact FSx.out _ _ hf (by simp)))
          clear hK K
          try simp only[Act.put,pu1,pu2,pu3]
          refine wpAnyH_done (by kernel_rfl) ?_ _;go_wp2_with fail;go_ret;exact FX.out _ hf
         ·have bsf:(sto != flt)=true:=by simpa using hsf
          have hres:=za (show RES=none by rw[HD.out,if_pos (Or.inr (Or.inr (Or.inr ⟨hs0,hsf⟩)))])
          go_wp2_with (first|(with_reducible refine zb 17 rfl (by kernel_rfl) 54 (.tmp 3) rfl g 0 rfl EX _ RA.out Tryz.underlying54 rfl EAI.out ?_)|(with_reducible refine zb 18 rfl (by kernel_rfl) 54 (.tmp 5) rfl (g+1) 0 rfl BX _ RB.out Tryz.underlying54 rfl BAI.out ?_)|(with_reducible refine zb 50 rfl (by kernel_rfl) 26 (.tmp 49) rfl g 90 rfl SX _ R9.out Tryz.underlying26 rfl SI.out ?_)|(with_reducible refine zh rfl 26 _ rfl _ ?_ (HZB.out _) ?_;·go_simp)|(go_at_call 67;(with_reducible refine(zaj _ _).mono ?_);rintro e wq ⟨rfl,rfl⟩;rw[HKB.out]))
          go_ret;exact FIN0.out hres.out _ [_,_] H2.out
    ·have b3:(stt==3)=false:=by simpa using h3
     have hres:=za (show RES=none by rw[HD2.out,if_neg h2,if_neg h3])
     go_wp2_with (first|(with_reducible refine zb 17 rfl (by kernel_rfl) 54 (.tmp 3) rfl g 0 rfl EX _ RA.out Tryz.underlying54 rfl EAI.out ?_)|(with_reducible refine zb 18 rfl (by kernel_rfl) 54 (.tmp 5) rfl (g+1) 0 rfl BX _ RB.out Tryz.underlying54 rfl BAI.out ?_))
     go_ret;exact FIN0.out hres.out _ [_,_] H2.out
end
end Go.Proofs.YtnjnooeldkideaaGreatDoor
