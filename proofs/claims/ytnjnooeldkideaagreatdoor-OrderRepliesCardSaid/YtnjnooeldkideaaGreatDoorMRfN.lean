/- order: the document's answers beside the program's own: in plain Lean. order: the law's same. -/
import Derived.Test.YtnjnooeldkideaaGreatDoorRfQ
import Derived.Test.YtnjnooeldkideaaGreatDoorMOrTn
import Derived.Test.YtnjnooeldkideaaGreatDoorMOrTa
import Derived.OwnWalk
import Derived.Test.YtnjnooeldkideaaGreatDoorMOrT
namespace Go.Proofs.YtnjnooeldkideaaGreatDoor
set_option maxRecDepth 100000
set_option maxHeartbeats 8000000
section
set_option linter.unusedVariables false
set_option linter.unusedSimpArgs false
open Go.RowKit Go.Lib Go.Deep
structure Near (m d:Md):Prop where
 known:d.known=m.known
 tries:d.tries=m.tries
 number:d.job.number=m.job.number
 state:d.job.state=m.job.state
 fault:d.job.fault=m.job.fault
 live:d.job.live=m.job.live
 began:d.began=m.began
 slot:m.job.live=true→d.job.slot=m.job.slot
 floor:m.job.live=true→d.job.floor=m.job.floor
theorem Near.refl (m:Md):Near m m:=⟨rfl,rfl,rfl,rfl,rfl,rfl,rfl,fun _=>rfl,fun _=>rfl⟩
theorem qv:∀(cs:List Cg) (t:Tb),(∀c∈cs,c.kind=1∨c.kind=2∨c.kind=3)→∃u,yl t cs=some u
 | [],t,_=>⟨t,rfl⟩
 | c::cs,t,h=>by
  have hc:=h c (List.mem_cons_self ..)
  have hr:=fun x hx=>h x (List.mem_cons_of_mem _ hx)
  unfold yl
  by_cases h1:c.kind=1
  ·rw[if_pos h1];exact qv cs _ hr
  ·rw[if_neg h1]
   by_cases h2:c.kind=2
   ·rw[if_pos h2];exact qv cs _ hr
   ·rw[if_neg h2,if_pos (by omega)];exact qv cs _ hr
theorem applyT_zero {t:Tb} {cs:List Cg} (hr:zx t=true) (hc:cs.all crT=true) {u:Tb} (h:yl t cs=some u):(zv t cs).2=0:=by
 unfold zv;rw[if_pos ⟨hr,hc⟩,h]
theorem je {t:Tb} {cs:List Cg} (hr:zx t=true) (hc:cs.all crT=true) (h:∀c∈cs,c.kind=1∨c.kind=2∨c.kind=3):(zv t cs).2=0:=by
 obtain⟨u,hu⟩:=qv cs t h;exact applyT_zero hr hc hu
theorem right_bad (s:Slt):rightS (badS s).1=true:=by
 unfold badS
 split
 ·decide +kernel
 ·decide +kernel
theorem right_try (s:Slt):rightS (tryS s).1=true:=by
 unfold tryS
 split
 ·rename_i h
  simp only[Bool.and_eq_true,beq_iff_eq,Bool.not_eq_true',beq_eq_false_iff_ne]at h;obtain⟨h1,h2,h3⟩:=h;unfold rightS at h1 ⊢;rw[if_neg (by omega),if_pos h2]at h1;simp only[Bool.and_eq_true,decide_eq_true_eq]at h1
  show(if s.st=0∨s.st=1∨s.st=4 then _ else if s.st=2 then _ else _)=true
  rw[if_neg (by omega),if_pos h2];simp only[Bool.and_eq_true,decide_eq_true_eq];exact⟨by omega,by omega,h1.2.2⟩
 ·decide +kernel
theorem right_good {s:Slt} (h:(goodS s).2=0):rightS (goodS s).1=true:=by
 unfold goodS at h ⊢
 split
 ·rename_i hc
  simp only[Bool.and_eq_true,fullS,Bool.or_eq_true,beq_iff_eq]at hc;obtain⟨h1,h2⟩:=hc
  have hi:imgS s=true:=by
   unfold rightS at h1;rw[if_neg (by omega)]at h1
   split at h1
   ·simp only[Bool.and_eq_true]at h1;exact h1.2.2
   ·rename_i h3
    rw[if_pos (by omega)]at h1;simp only[Bool.and_eq_true]at h1;exact h1.2
  show rightS ⟨3,0,s.ver,s.sz,s.dig⟩=true
  unfold rightS;rw[if_neg (by show ¬((3:Int)=0∨(3:Int)=1∨(3:Int)=4);decide),if_neg (by show ¬(3:Int)=2;decide),if_pos rfl];simp only[Bool.and_eq_true];exact⟨rfl,hi⟩
 ·rename_i hc
  rw[if_neg hc]at h;exact absurd h (by decide)
theorem za7 {i:Int} (h:ixB i=true):ixB (1-i)=true:=by
 rcases(ul i).1 h with rfl|rfl<;>rfl
theorem zai {i:Int} {s:Slt} (hi:ixB i=true) (hs:rightS s=true):crT (setC i s)=true:=by
 show(ixB i&&rightS s)=true
 rw[hi,hs];rfl
theorem aim_ix {t:Tb} (h:aimT t≠-1):ixB (aimT t)=true:=by
 unfold aimT at h ⊢
 split
 ·rename_i hc
  exact za7 ((ku t).1 hc.1).2.2.1
 ·rename_i hc
  rw[if_neg hc]at h;exact absurd rfl h
theorem apply_wipe {t:Tb} (hr:zx t=true) (h:(wipeT t).2=0):(zv t (wipeT t).1).2=0:=by
 unfold wipeT at h ⊢
 split
 ·exact je hr rfl (fun c hc=>by cases hc)
 ·rename_i ha
  refine je hr ?_ ?_
  ·simp only[List.all_cons,List.all_nil,Bool.and_true]
   exact zai (aim_ix ha) (by decide +kernel)
  ·intro c hc
   rcases List.mem_cons.1 hc with rfl|hc
   ·exact .inl rfl
   ·cases hc
theorem qo {t:Tb} (hr:zx t=true):zv t []=(t,0):=by
 unfold zv;rw[if_pos ⟨hr,rfl⟩]
 rfl
theorem apply_good {t:Tb} {i:Int} (hr:zx t=true) (h:(goodT t i).2=0):(zv t (goodT t i).1).2=0:=by
 unfold goodT at h ⊢
 split
 ·rename_i hc
  rw[if_pos hc]at h
  split
  ·rename_i hg
   have hs:=right_good hg;have hset:=zai (i:=i) hc.2.1 hs
   split
   ·rename_i hf
    refine applyT_zero hr ?_ (u:={ (t.put i (goodS (t.at_ i)).1) with flo:=(goodS (t.at_ i)).1.ver }) ?_
    ·simp only[List.all_cons,List.all_nil,Bool.and_true,Bool.and_eq_true]
     refine⟨hset,?_⟩
     show decide ((goodS (t.at_ i)).1.ver≤281474976710656)=true
     have h3:(goodS (t.at_ i)).1.st=3:=by
      unfold goodS at hg ⊢
      split
      ·rfl
      ·rename_i hx
       rw[if_neg hx]at hg;exact absurd hg (by decide)
     generalize (goodS (t.at_ i)).1=s at hs h3;unfold rightS imgS at hs;rw[if_neg (by omega),if_neg (by omega),if_pos h3]at hs;simp only[Bool.and_eq_true,decide_eq_true_eq]at hs ⊢;exact hs.2.2.1
    ·have e1:yl t [setC i (goodS (t.at_ i)).1,floC (goodS (t.at_ i)).1.ver]=yl (t.put i (goodS (t.at_ i)).1) [floC (goodS (t.at_ i)).1.ver]:=rfl
     rw[e1]
     have e2:yl (t.put i (goodS (t.at_ i)).1) [floC (goodS (t.at_ i)).1.ver]=if (goodS (t.at_ i)).1.ver < (t.put i (goodS (t.at_ i)).1).flo then none else some { (t.put i (goodS (t.at_ i)).1) with flo:=(goodS (t.at_ i)).1.ver }:=rfl
     rw[e2,if_neg]
     have e3:(t.put i (goodS (t.at_ i)).1).flo=t.flo:=by unfold Tb.put;split<;>rfl
     rw[e3];omega
   ·refine je hr ?_ ?_
    ·simp only[List.all_cons,List.all_nil,Bool.and_true];exact hset
    ·intro c hc
     rcases List.mem_cons.1 hc with rfl|hc
     ·exact .inl rfl
     ·cases hc
  ·rename_i hg
   rw[if_neg hg]at h;exact absurd h hg
 ·rename_i hc
  rw[if_neg hc]at h;exact absurd h (by decide)
theorem apply_bad {t:Tb} {i:Int} (hr:zx t=true) (h:(badT t i).2=0):(zv t (badT t i).1).2=0:=by
 unfold badT at h ⊢
 have n:(zv t []).2=0:=by rw[qo hr]
 split
 ·rename_i hc
  have hset:=zai (i:=i) hc.2 (right_bad (t.at_ i))
  split
  ·split
   ·split
    ·refine je hr ?_ ?_
     ·simp only[List.all_cons,List.all_nil,Bool.and_true,Bool.and_eq_true]
      exact⟨hset,za7 hc.2⟩
     ·intro c hc
      rcases List.mem_cons.1 hc with rfl|hc
      ·exact .inl rfl
      ·rcases List.mem_cons.1 hc with rfl|hc
       ·exact .inr (.inl rfl)
       ·cases hc
    ·refine je hr ?_ ?_
     ·simp only[List.all_cons,List.all_nil,Bool.and_true];exact hset
     ·intro c hc
      rcases List.mem_cons.1 hc with rfl|hc
      ·exact .inl rfl
      ·cases hc
   ·exact n
  ·exact n
 ·exact n
theorem apply_land {t:Tb} {i:Int} {s:Slt} (hr:zx t=true):(zv t (landT t i s).1).2=0:=by
 unfold landT
 split
 ·rename_i hc
  refine je hr ?_ ?_
  ·simp only[List.all_cons,List.all_nil,Bool.and_true,Bool.and_eq_true]
   exact⟨zai hc.2.1 hc.2.2.2.2.1,hc.2.1⟩
  ·intro c hc
   rcases List.mem_cons.1 hc with rfl|hc
   ·exact .inl rfl
   ·rcases List.mem_cons.1 hc with rfl|hc
    ·exact .inr (.inl rfl)
    ·cases hc
 ·rw[qo hr]
theorem apply_plan {t:Tb} (hr:zx t=true):(zv t (planT t).2).2=0:=by
 unfold planT
 split
 ·rename_i hc
  have ha:=((ku t).1 hr).2.2.1
  have hp:ixB (pickT t)=true:=by
   have hp:=hc.2;unfold pickT at hp ⊢
   split
   ·exact ha
   ·split
    ·exact za7 ha
    ·rename_i h1 h2
     rw[if_neg h1,if_neg h2]at hp;exact absurd rfl hp
  have hb:=right_bad (t.at_ t.act);have ht:=right_try (t.at_ (pickT t))
  have key:∀c∈planL (pickT t) t.act ((t.at_ t.act).st==2) (badS (t.at_ t.act)).1 ((t.at_ (pickT t)).st==2) (tryS (t.at_ (pickT t))).1,crT c=true∧(c.kind=1∨c.kind=2∨c.kind=3):=by
   intro c hc;unfold planL at hc
   rcases List.mem_append.1 hc with hc|hc
   ·split at hc
    ·cases hc
    ·rcases List.mem_append.1 hc with hc|hc
     ·split at hc
      ·rcases List.mem_cons.1 hc with rfl|hc
       ·exact⟨zai ha hb,.inl rfl⟩
       ·cases hc
      ·cases hc
     ·rcases List.mem_cons.1 hc with rfl|hc
      ·exact⟨hp,.inr (.inl rfl)⟩
      ·cases hc
   ·rcases List.mem_append.1 hc with hc|hc
    ·split at hc
     ·rcases List.mem_cons.1 hc with rfl|hc
      ·exact⟨zai hp ht,.inl rfl⟩
      ·cases hc
     ·cases hc
    ·rcases List.mem_cons.1 hc with rfl|hc
     ·refine⟨?_,.inr (.inr rfl)⟩
      show(pickT t==-1||ixB (pickT t))=true
      rw[hp,Bool.or_true]
     ·cases hc
  exact je hr (List.all_eq_true.2 fun c hc=>(key c hc).1) fun c hc=>(key c hc).2
 ·rw[qo hr]
structure Corr (m:Md) (a:An) (x:Int) (C:Md × Ry × Bool):Prop where
 ok:(storedA m a x).2=C.2.2
 rep:(storedA m a x).2=true→(storedA m a x).1.rep=C.2.1
 app:(storedA m a x).2=true→(zv m.known (storedA m a x).1.l).2=0
 near:(storedA m a x).2=true→Near ⟨(zv m.known (storedA m a x).1.l).1,m.tries,(storedA m a x).1.job,(storedA m a x).1.began⟩ C.1
theorem refA_near {m d:Md} (hr:zx m.known=true) (h:Near m d) (x:Int):Near ⟨(zv m.known (refA m x).l).1,m.tries,(refA m x).job,(refA m x).began⟩ d:=by
 have e:(zv m.known (refA m x).l)=(m.known,0):=qo hr;rw[e];exact h
theorem ua {m d:Md} {a:An} {x:Int} {d1:Md} {r1:Ry} (hr:zx m.known=true) (hk:keptB x=true) (hkeep:a.keeps=false) (hl:a.l=[]) (hrep:a.rep=r1) (hn:Near ⟨m.known,m.tries,a.job,a.began⟩ d1):Corr m a x (d1,r1,x==0):=by
 by_cases hx:x=0
 ·subst hx
  have e:=uy m a;refine⟨by rw[e];rfl,fun _=>by rw[e];exact hrep,fun _=>?_,fun _=>?_⟩
  ·rw[e,hl,qo hr]
  ·rw[e]
   show Near ⟨(zv m.known a.l).1,m.tries,a.job,a.began⟩ d1
   rw[hl,qo hr];exact hn
 ·have e : storedA m a x = (zA, false) := by
   unfold storedA;rw[if_pos (by simp[hk,hkeep,hx])]
  refine⟨by rw[e];simp[hx],fun h=>?_,fun h=>?_,fun h=>?_⟩<;>rw[e]at h<;>cases h
theorem za8 {m d d':Md} {a:An} {x:Int} {r:Ry} {cs:List Cg} (hr:zx m.known=true) (hk:keptB x=true) (hkeep:a.keeps=true) (hl:a.l=cs) (hrep:a.rep=r) (h0:(zv m.known cs).2=0) (hmd:Near m d)
  (hn:Near ⟨(zv m.known cs).1,m.tries,a.job,a.began⟩ { d' with known:=(zv m.known cs).1 }):Corr m a x (keepD d d' cs r x):=by
 have ed:d.known=m.known:=hmd.known
 by_cases hx:x=0
 ·subst hx
  have e:=uy m a
  have ek:keepD d d' cs r 0=({ d' with known:=(zv m.known cs).1 },r,true):=by
   unfold keepD keepM;rw[if_pos rfl,ed]
  rw[ek];refine⟨by rw[e],fun _=>by rw[e];exact hrep,fun _=>?_,fun _=>?_⟩
  ·rw[e,hl];exact h0
  ·rw[e]
   show Near ⟨(zv m.known a.l).1,m.tries,a.job,a.began⟩ _
   rw[hl];exact hn
 ·have e : storedA m a x = (refA m x, true) := by
   unfold storedA;rw[if_neg (by simp[hk,hkeep]),if_pos hx]
  have ek:keepD d d' cs r x=(d,⟨x,0,0,0,0,zTb⟩,true):=by
   unfold keepD keepM;rw[if_neg hx]
  rw[ek];refine⟨by rw[e],fun _=>by rw[e];rfl,fun _=>?_,fun _=>?_⟩
  ·rw[e]
   show(zv m.known []).2=0
   rw[qo hr]
  ·rw[e];exact refA_near hr hmd x
theorem zay {m d:Md} {l:List Cg} {y x:Int} (hr:zx m.known=true) (hk:keptB x=true) (hmd:Near m d) (h0:y=0→(zv m.known l).2=0):Corr m (saidA m l y) x (if y≠0 then failD d y x else keepD d d l zRy x):=by
 by_cases hy:y=0
 ·rw[if_neg (fun h=>h hy)]
  unfold saidA;rw[if_pos hy];exact za8 hr hk rfl rfl rfl (h0 hy) hmd ⟨rfl,hmd.tries,hmd.number,hmd.state,hmd.fault,hmd.live,hmd.began,hmd.slot,hmd.floor⟩
 ·rw[if_pos hy]
  unfold saidA;rw[if_neg hy];exact ua (d:=d) hr hk rfl rfl rfl hmd
theorem call_corr {m d:Md} {ns:List ByteArray} {q:Cl} {x:Int} (hr:zx m.known=true) (hmd:Near m d) (hq:y3 q=true) (hk:keptB x=true):Corr m (askA m (filtN ns) q) x (callD d ns q x):=by
 obtain⟨h1,h2,h3,h4,h5,h6,h7,h8,h9⟩:=id hmd;unfold callD;rw[if_neg (by rw[hq,hk];decide)];unfold askA
 by_cases k1:q.kind=1
 ·rw[if_pos k1,if_pos k1]
  unfold instD instA;rw[h6,hasB_spec,h1]
  by_cases hl:m.job.live=true
  ·rw[if_pos hl,if_pos hl]
   exact ua (d:=d) hr hk rfl rfl rfl hmd
  ·rw[if_neg hl,if_neg hl]
   by_cases hc:Lib.containsS (filtN ns) (foldB q.name)=false
   ·rw[if_pos hc,if_pos hc]
    exact ua (d:=d) hr hk rfl rfl rfl hmd
   ·rw[if_neg hc,if_neg hc]
    by_cases ha:aimT m.known=-1
    ·have e:wipeT m.known=([],101):=by unfold wipeT;rw[if_pos ha]
     rw[if_pos ha,e,if_pos (by decide)];exact ua (d:=d) hr hk rfl rfl rfl hmd
    ·have e:(wipeT m.known).2=0:=by unfold wipeT;rw[if_neg ha]
     rw[if_neg ha,if_neg (fun h=>h e),h7];refine za8 hr hk rfl rfl rfl (apply_wipe hr e) hmd ?_;unfold nextI;rw[h1,h7];exact⟨rfl,h2,rfl,rfl,rfl,rfl,rfl,fun _=>rfl,fun _=>rfl⟩
 rw[if_neg k1,if_neg k1]
 by_cases k2:q.kind=2
 ·rw[if_pos k2,if_pos k2,h6,h3]
  unfold cancA
  by_cases hc:(!m.job.live||(q.job != 0&&q.job != m.job.number))=true
  ·rw[if_pos hc,if_pos hc]
   exact ua (d:=d) hr hk rfl rfl rfl hmd
  ·rw[if_neg hc,if_neg hc]
   exact ua (d:=d) hr hk rfl rfl rfl ⟨h1,h2,h3,rfl,h5,rfl,h7,fun h=>(Bool.noConfusion h),fun h=>(Bool.noConfusion h)⟩
 rw[if_neg k2,if_neg k2]
 by_cases k3:q.kind=3
 ·rw[if_pos k3,if_neg (by omega),if_neg (by omega),if_neg (by omega),h1,h3,h4,h5]
  exact ua (d:=d) hr hk rfl rfl rfl hmd
 rw[if_neg k3]
 by_cases k4:q.kind=4
 ·rw[if_pos k4,if_pos k4,h1]
  exact zay hr hk hmd (apply_good hr)
 rw[if_neg k4,if_neg k4]
 by_cases k5:q.kind=5
 ·rw[if_pos k5,if_pos k5,h6,h1]
  by_cases hl:m.job.live=true
  ·rw[h8 hl]
   by_cases hc:(m.job.live&&q.slot==m.job.slot)=true
   ·rw[if_pos hc,if_pos hc]
    exact ua (d:=d) hr hk rfl rfl rfl hmd
   ·rw[if_neg hc,if_neg hc]
    exact zay hr hk hmd (apply_bad hr)
  ·have hl:m.job.live=false:=by simpa using hl
   rw[hl,Bool.false_and,Bool.false_and,if_neg (by decide),if_neg (by decide)];exact zay hr hk hmd (apply_bad hr)
 rw[if_neg k5,if_neg k5];have k6:=right_six hq k1 k2 k3 k4 k5;rw[if_pos k6,h6];unfold rebA
 by_cases hl:m.job.live=true
 ·rw[if_pos hl,if_pos hl]
  exact ua (d:=d) hr hk rfl rfl rfl hmd
 ·rw[if_neg hl,if_neg hl,h1]
  have p:=u5 m.known
  by_cases hp:(planT m.known).1 < 0
  ·rw[if_pos hp,if_pos (by omega)]
   exact ua (d:=d) hr hk rfl rfl rfl hmd
  ·rw[if_neg hp,if_neg (by omega)]
   refine za8 hr hk rfl rfl rfl (apply_plan hr) hmd ?_
   have hl:m.job.live=false:=by simpa using hl
   unfold rebD;exact⟨rfl,h2,rfl,rfl,rfl,by show d.job.live=false;rw[h6,hl],h7,fun h=>(Bool.noConfusion h),fun h=>(Bool.noConfusion h)⟩
theorem callD_refused {d:Md} {ns:List ByteArray} {q:Cl} {x:Int} (h:y3 q=false):callD d ns q x=(d,zRy,false):=by
 unfold callD;rw[if_pos (by rw[h];rfl)]
theorem callD_kept {d:Md} {ns:List ByteArray} {q:Cl} {x:Int} (h:keptB x=false):callD d ns q x=(d,zRy,false):=by
 unfold callD;rw[if_pos (by rw[h,Bool.and_false])]
theorem storedA_kept {m:Md} {a:An} {x:Int} (h:keptB x=false):storedA m a x=(zA,false):=by
 unfold storedA;rw[if_pos (by rw[h];rfl)]
theorem bareE_iff (e:En):eqEn e (bareE e)=true↔e.state=0∧e.fault=0∧eqS e.slot zS=true:=by
 rw[za5,za4];obtain⟨c1,c2,c3,c4,c5,c6,c7,c8⟩:=e
 simp[bareE]
theorem bareF_iff (e:En):eqEn e (bareF e)=true↔e.serial=0∧eqC e.call zC=true∧eqRy e.rep zRy=true:=by
 rw[za5,eqC_iff,zao];obtain⟨c1,c2,c3,c4,c5,c6,c7,c8⟩:=e
 simp[bareF]
theorem end_near {m d:Md} {e:En} (hr:zx m.known=true) (hmd:Near m d):(if (endD d e).2=true then ((endD d e).1,true) else (d,false)).2=(endedM m e).isSome∧Near ((endedM m e).getD m) (if (endD d e).2=true then ((endD d e).1,true) else (d,false)).1:=by
 by_cases ho:openE d e=true
 ·have eD:endD d e=(d,false):=by unfold endD;rw[if_pos ho]
  have eM:endedM m e=none:=by
   unfold endedM;refine if_neg ?_;rw[bareF_iff];rintro⟨⟨g1,g2,g3⟩,g4⟩;unfold openE at ho;rw[hmd.live,g1,g2,g3,g4]at ho;exact absurd ho (by decide)
  rw[eD,eM];exact⟨rfl,hmd⟩
 ·have hyes : eqEn e (bareF e) = true ∧ m.job.live = true := by
   rw[bareF_iff];unfold openE at ho;rw[hmd.live]at ho;simp only[Bool.or_eq_true,Bool.not_eq_true',not_or,bne_iff_ne,ne_eq,Decidable.not_not,Bool.not_eq_false]at ho;exact⟨⟨ho.1,ho.2.1,ho.2.2.1⟩,ho.2.2.2⟩
  have hl:=hyes.2
  by_cases k3:e.state=3
  ·have n2:¬e.state=2:=by omega
   have eD:endD d e=(yr d e,eqS e.slot zS&&((e.fault != 0)&&((e.store==0)||(keptB e.store&&(e.store==e.fault))))):=by unfold endD;rw[if_neg ho,if_pos k3]
   have eM:endedM m e=if eqS e.slot zS=false∨e.fault=0∨keptB e.store=false∨(e.store≠0∧e.store≠e.fault) then none else some (yr m e):=by unfold endedM;rw[if_pos hyes,if_neg n2,if_pos k3]
   rw[eD,eM]
   cases hb:(eqS e.slot zS&&((e.fault != 0)&&((e.store==0)||(keptB e.store&&(e.store==e.fault))))) with
   | true=>
    simp only[Bool.and_eq_true,Bool.or_eq_true,beq_iff_eq,bne_iff_ne,ne_eq]at hb;obtain⟨b1,b2,b3⟩:=hb
    have hc:¬(eqS e.slot zS=false∨e.fault=0∨keptB e.store=false∨(e.store≠0∧e.store≠e.fault)):=by
     rintro(h|h|h|h)
     ·rw[b1]at h;cases h
     ·exact b2 h
     ·rcases b3 with b3|b3
      ·rw[b3]at h;exact absurd h (by decide)
      ·rw[b3.1]at h;cases h
     ·rcases b3 with b3|b3
      ·exact h.1 b3
      ·exact h.2 b3.2
    rw[if_neg hc];exact⟨rfl,⟨hmd.known,hmd.tries,hmd.number,rfl,rfl,rfl,hmd.began,fun h=>(Bool.noConfusion h),fun h=>(Bool.noConfusion h)⟩⟩
   | false=>
    have hc:eqS e.slot zS=false∨e.fault=0∨keptB e.store=false∨(e.store≠0∧e.store≠e.fault):=by
     have hb:¬(eqS e.slot zS&&((e.fault != 0)&&((e.store==0)||(keptB e.store&&(e.store==e.fault)))))=true:=by rw[hb];decide
     simp only[Bool.and_eq_true,Bool.or_eq_true,beq_iff_eq,bne_iff_ne,ne_eq]at hb
     by_cases b1:eqS e.slot zS=true
     ·by_cases b2:e.fault=0
      ·exact .inr (.inl b2)
      ·cases b3:keptB e.store with
       | false=>exact .inr (.inr (.inl rfl))
       | true=>exact .inr (.inr (.inr ⟨fun h=>hb ⟨b1,b2,.inl h⟩,fun h=>hb ⟨b1,b2,.inr ⟨b3,h⟩⟩⟩))
     ·exact .inl (by simpa using b1)
    rw[if_pos hc];exact⟨rfl,hmd⟩
  ·have eL : landE d e = (e.state != 2 || (e.fault != 0 || (e.store != 0 || ((landT m.known m.job.slot e.slot).2 != 0 || (e.slot.tr != m.tries || decide (e.slot.ver < m.job.floor)))))) := by
    unfold landE;rw[hmd.known,hmd.slot hl,hmd.tries,hmd.floor hl]
   have eD:endD d e=if landE d e=true then (d,false) else ({ yr d e with known:=(zv m.known (landT m.known m.job.slot e.slot).1).1 },true):=by
    unfold endD;rw[if_neg ho,if_neg k3,hmd.known,hmd.slot hl]
   rw[eD]
   have no:landE d e=true→endedM m e=none→(if (if landE d e=true then (d,false) else ({ yr d e with known:=(zv m.known (landT m.known m.job.slot e.slot).1).1 },true)).2=true then ((if landE d e=true then (d,false) else ({ yr d e with known:=(zv m.known (landT m.known m.job.slot e.slot).1).1 },true)).1,true) else (d,false)).2=(endedM m e).isSome∧Near ((endedM m e).getD m) (if (if landE d e=true then (d,false) else ({ yr d e with known:=(zv m.known (landT m.known m.job.slot e.slot).1).1 },true)).2=true then ((if landE d e=true then (d,false) else ({ yr d e with known:=(zv m.known (landT m.known m.job.slot e.slot).1).1 },true)).1,true) else (d,false)).1:=fun h1 h2=>by
    rw[if_pos h1,h2];exact⟨rfl,hmd⟩
   by_cases k22:e.state=2
   ·have eM:endedM m e=if e.fault=0∧e.store=0 then (landsM m e.slot).map (fun x=>yr x e) else none:=by unfold endedM;rw[if_pos hyes,if_pos k22]
    by_cases hf:e.fault=0∧e.store=0
    ·rw[if_pos hf]at eM
     by_cases hv:(e.slot.tr != m.tries)=true∨decide (e.slot.ver < m.job.floor)=true
     ·have el:landsM m e.slot=none:=by unfold landsM;rw[if_pos hv]
      rw[el]at eM;exact no (by rw[eL];rcases hv with hv|hv<;>simp[hv]) eM
     ·by_cases h0:(landT m.known m.job.slot e.slot).2=0
      ·have el:landsM m e.slot=some { m with known:=(zv m.known (landT m.known m.job.slot e.slot).1).1 }:=by unfold landsM;rw[if_neg hv,if_pos h0,if_pos (apply_land hr)]
       rw[el]at eM
       have hE:landE d e=false:=by
        rw[not_or,Bool.not_eq_true,Bool.not_eq_true]at hv;rw[eL,k22,hf.1,hf.2,h0,hv.1,hv.2]
        rfl
       rw[hE,eM];exact⟨rfl,⟨rfl,hmd.tries,hmd.number,rfl,rfl,rfl,hmd.began,fun h=>(Bool.noConfusion h),fun h=>(Bool.noConfusion h)⟩⟩
      ·have el:landsM m e.slot=none:=by unfold landsM;rw[if_neg hv,if_neg h0]
       rw[el]at eM;exact no (by rw[eL];simp[h0]) eM
    ·rw[if_neg hf]at eM
     refine no ?_ eM;rw[eL]
     by_cases h1:e.fault=0
     ·have h2:e.store≠0:=fun h=>hf ⟨h1,h⟩
      simp[h2]
     ·simp[h1]
   ·exact no (by rw[eL];simp[k22]) (by unfold endedM;rw[if_pos hyes,if_neg k22,if_neg k3])
theorem do_near {m d:Md} {ns:List ByteArray} {e:En} (hr:zx m.known=true) (hmd:Near m d):(doD d ns e).2=(doM m (filtN ns) e).isSome∧Near ((doM m (filtN ns) e).getD m) (doD d ns e).1:=by
 by_cases k2:e.kind=2
 ·have n1:¬e.kind=1:=by omega
  have eD:doD d ns e=if (endD d e).2=true then ((endD d e).1,true) else (d,false):=by unfold doD;rw[if_pos k2]
  have eM:doM m (filtN ns) e=endedM m e:=by unfold doM;rw[if_neg n1,if_pos k2]
  rw[eD,eM];exact end_near hr hmd
 by_cases k1:e.kind=1
 ·have eM:doM m (filtN ns) e=calledM m (filtN ns) e:=by unfold doM;rw[if_pos k1]
  rw[eM]
  by_cases hb:eqEn e (bareE e)=true
  ·have hb':=(bareE_iff e).1 hb
   have hx:¬(e.kind != 1||(e.state != 0||(e.fault != 0||!eqS e.slot zS)))=true:=by rw[k1,hb'.1,hb'.2.1,hb'.2.2];decide
   have eD:doD d ns e=if (!(callD d ns e.call e.store).2.2||!eqRy (callD d ns e.call e.store).2.1 e.rep)=true then (d,false) else ((callD d ns e.call e.store).1,true):=by unfold doD;rw[if_neg k2,if_neg hx]
   rw[eD]
   by_cases hq:y3 e.call=true
   ·have eC:calledM m (filtN ns) e=if (storedA m (askA m (filtN ns) e.call) e.store).2=true∧eqRy (storedA m (askA m (filtN ns) e.call) e.store).1.rep e.rep=true then (if (zv m.known (storedA m (askA m (filtN ns) e.call) e.store).1.l).2=0 then some ⟨(zv m.known (storedA m (askA m (filtN ns) e.call) e.store).1.l).1,m.tries,(storedA m (askA m (filtN ns) e.call) e.store).1.job,(storedA m (askA m (filtN ns) e.call) e.store).1.began⟩ else none) else none:=by unfold calledM;rw[if_pos ⟨hb,hq⟩]
    rw[eC]
    by_cases hk:keptB e.store=true
    ·have hc:=call_corr (ns:=ns) hr hmd hq hk
     by_cases ho:(callD d ns e.call e.store).2.2=true
     ·have hs:=hc.ok.trans ho
      have hrep:=hc.rep hs
      by_cases he:eqRy (callD d ns e.call e.store).2.1 e.rep=true
      ·have c1:¬(!(callD d ns e.call e.store).2.2||!eqRy (callD d ns e.call e.store).2.1 e.rep)=true:=by rw[ho,he];decide
       rw[if_neg c1,if_pos ⟨hs,by rw[hrep];exact he⟩,if_pos (hc.app hs)];exact⟨rfl,hc.near hs⟩
      ·have c1:(!(callD d ns e.call e.store).2.2||!eqRy (callD d ns e.call e.store).2.1 e.rep)=true:=by simp[he]
       rw[if_pos c1,if_neg (fun h=>he (by rw[←hrep];exact h.2))];exact⟨rfl,hmd⟩
     ·have c1:(!(callD d ns e.call e.store).2.2||!eqRy (callD d ns e.call e.store).2.1 e.rep)=true:=by simp[ho]
      rw[if_pos c1,if_neg (fun h=>ho (by rw[←hc.ok];exact h.1))];exact⟨rfl,hmd⟩
    ·have hk:keptB e.store=false:=by simpa using hk
     rw[callD_kept hk,storedA_kept hk]
     have n1:¬((zA,false).2=true∧eqRy (zA,false).1.rep e.rep=true):=fun h=>(Bool.noConfusion h.1)
     rw[if_neg n1];exact⟨rfl,hmd⟩
   ·have hq':y3 e.call=false:=by simpa using hq
    have eC:calledM m (filtN ns) e=none:=by unfold calledM;rw[if_neg (fun h=>hq h.2)]
    rw[callD_refused hq',eC];exact⟨rfl,hmd⟩
  ·have eC:calledM m (filtN ns) e=none:=by unfold calledM;rw[if_neg (fun h=>hb h.1)]
   have hx:(e.kind != 1||(e.state != 0||(e.fault != 0||!eqS e.slot zS)))=true:=by
    rw[bareE_iff]at hb
    by_cases g1:e.state=0
    ·by_cases g2:e.fault=0
     ·have g3 : eqS e.slot zS = false := by
       cases hh:eqS e.slot zS with
       | false=>rfl
       | true=>exact absurd ⟨g1,g2,hh⟩ hb
      simp[g3]
     ·simp[g2]
    ·simp[g1]
   have eD:doD d ns e=(d,false):=by unfold doD;rw[if_neg k2,if_pos hx]
   rw[eC,eD];exact⟨rfl,hmd⟩
 ·have eM:doM m (filtN ns) e=none:=by unfold doM;rw[if_neg k1,if_neg k2]
  have hx:(e.kind != 1||(e.state != 0||(e.fault != 0||!eqS e.slot zS)))=true:=by simp[k1]
  have eD:doD d ns e=(d,false):=by unfold doD;rw[if_neg k2,if_pos hx]
  rw[eM,eD];exact⟨rfl,hmd⟩
theorem reply_near {m d:Md} {ns:List ByteArray} {q:Cl} {x:Int} (hr:zx m.known=true) (hmd:Near m d):(zbl m (filtN ns) q x).2=(callD d ns q x).2.2∧((zbl m (filtN ns) q x).2=true→(zbl m (filtN ns) q x).1=(callD d ns q x).2.1)∧((zbl m (filtN ns) q x).2=false→(zbl m (filtN ns) q x).1=zRy):=by
 unfold zbl
 by_cases hq:y3 q=true
 ·rw[if_pos hq]
  by_cases hk:keptB x=true
  ·have hc:=call_corr (ns:=ns) hr hmd hq hk
   refine⟨hc.ok,hc.rep,fun h=>?_⟩;have h:(storedA m (askA m (filtN ns) q) x).2=false:=h
   show(storedA m (askA m (filtN ns) q) x).1.rep=zRy
   unfold storedA at h ⊢
   split
   ·rfl
   ·rename_i h1
    rw[if_neg h1]at h
    split at h<;>cases h
  ·have hk:keptB x=false:=by simpa using hk
   rw[storedA_kept hk,callD_kept hk];exact⟨rfl,fun h=>(Bool.noConfusion h),fun _=>rfl⟩
 ·have hq':y3 q=false:=by simpa using hq
  rw[if_neg hq,callD_refused hq'];exact⟨rfl,fun h=>(Bool.noConfusion h),fun _=>rfl⟩
end

section
set_option linter.unusedVariables false
set_option linter.unusedSimpArgs false
open Go.RowKit Go.Lib Go.Deep
section
variable {W w:World} {J:Nat→Option Obj} {t:Tb} {F:List (Nat × Obj)}
variable {m d:Md} {nv nd:Value} {gm:Nat}
theorem o_job (ok:m.Ok) (h:St W w J F) (hm:(gm,Obj.cells (m.cells nv) 88 (0,0))∈F):Calls Tryz.prog 38 #[.pointer (some ⟨gm,0,none⟩)] w fun e w'=>e=.returned (.tuple #[.int .i64 m.job.number,.int .i64 m.job.state,.int .i64 m.job.fault])∧St W w' J F:=by
 have c:=h.md ok hm;have c77:=c.number;have c78:=c.state;have c79:=c.fault;have H:=za h;clear c h hm ok
 go_enter Tryz.func38,Tryz.ntmps38
 go_wp2_with fail
 go_quiet (fail)
 go_wp2_with fail
 go_ret3
 exact⟨rfl,H.out.drew _⟩
theorem o_same (ok:m.Ok) (okd:d.Ok) (hn:Near m d) (on:nd.oneCell'=true) (h:St W w J F) (hm:(gm,Obj.cells (m.cells nv) 88 (0,0))∈F):Calls Tryz.prog 18 #[.pointer (some ⟨gm,0,none⟩),.agg (stC d nd)] w fun e w'=>e=.returned (.bool true)∧St W w' J F:=by
 have h1:=h.alloc (.cells (stC d nd) 47);obtain⟨g,hg⟩:∃g,w.heap.size=g:=⟨_,rfl⟩;rw[hg]at h1
 have kj:=fun(v:World) (X:List (Nat × Obj)) (hv:St W v J X) (hx:(gm,Obj.cells (m.cells nv) 88 (0,0))∈X)=>o_job ok hv hx
 have kl:=fun(v:World) (X:List (Nat × Obj)) (hv:St W v J X) (hx:(gm,Obj.cells (m.cells nv) 88 (0,0))∈X)=>o_live ok hv hx
 have kt:=fun(v:World) (X:List (Nat × Obj)) (hv:St W v J X) (hx:(gm,Obj.cells (m.cells nv) 88 (0,0))∈X)=>o_table ok hv hx
 have st:=fun(v:World) (X:List (Nat × Obj)) (hv:St W v J X) (hm:(g,Obj.cells (stC d nd) 47 (0,0))∈X)=>(⟨(hv.stt okd hm).known,(hv.stt okd hm).number,(hv.stt okd hm).state,(hv.stt okd hm).fault,(hv.stt okd hm).live⟩:v.rangeAt g 0 d.known.cells.toList∧v.cell? ⟨g,77,none⟩=some (.int .i64 d.job.number)∧v.cell? ⟨g,78,none⟩=some (.int .i64 d.job.state)∧v.cell? ⟨g,79,none⟩=some (.int .i64 d.job.fault)∧v.cell? ⟨g,81,none⟩=some (.bool d.job.live))
 have ti:=z7 ok.known
 have eqs:∀v,(Op.equalIn 10000 29 (.agg m.known.cells) (.agg m.known.cells)).run Tryz.prog v=.ok true v:=fun v=>by
  obtain⟨r,h1,h2⟩:=eq_table m.known m.known ok.known ok.known v;rw[h1,h2.2 rfl]
 rw[hn.known,hn.number,hn.state,hn.fault,hn.live]at st;unfold Tb.val at kt;obtain⟨C,hC⟩:∃z,m.known.cells=z:=⟨_,rfl⟩;rw[hC]at kt st ti eqs;obtain⟨MX,hMX⟩:∃z,m.cells nv=z:=⟨_,rfl⟩;rw[hMX]at hm kj kl kt;obtain⟨DX,hDX⟩:∃z,stC d nd=z:=⟨_,rfl⟩;rw[hDX]at h1 st ⊢;obtain⟨jn,hjn⟩:∃z,m.job.number=z:=⟨_,rfl⟩;obtain⟨js,hjs⟩:∃z,m.job.state=z:=⟨_,rfl⟩;obtain⟨jf,hjf⟩:∃z,m.job.fault=z:=⟨_,rfl⟩;obtain⟨jl,hjl⟩:∃z,m.job.live=z:=⟨_,rfl⟩;rw[hjn,hjs,hjf]at kj st;rw[hjl]at kl st;have TI:Hid ((Tryz.prog.info? 29).map (·.size)=some C.toList.length):=za (by rw[Array.length_toList];exact ti);have H1:=za h1;have KJ:=za kj;have KL:=za kl;have KT:=za kt;have FX:=za st;have HM:=za hm
 have bl:(jl==jl)=true:=by simp
 have b1:(jn==jn)=true:=by simp
 have b2:(js==js)=true:=by simp
 have b3:(jf==jf)=true:=by simp
 clear h1 kj kl kt st hm ti h ok okd hn hC hMX hDX hjn hjs hjf hjl
 go_enter Tryz.func18,Tryz.ntmps18
 go_wp2_with fail;go_at_call 38;refine(KJ.out _ _ H1.out (List.mem_cons_of_mem _ HM.out)).mono ?_;rintro e w2 ⟨rfl,h2⟩;have H2:=za h2;clear h2 H1;go_wp2_with fail;have HDW:=za H2.out.drew1;have s1:=FX.out _ _ HDW.out (by simp);have HUT:=za Tryz.underlying29;refine wp_region_held_drew (S:=fun v=>v.rangeAt g 0 C.toList∧v.cell? ⟨g,77,none⟩=some (.int .i64 jn)∧v.cell? ⟨g,78,none⟩=some (.int .i64 js)∧v.cell? ⟨g,79,none⟩=some (.int .i64 jf)∧v.cell? ⟨g,81,none⟩=some (.bool jl)) (by kernel_rfl) s1 (fun hHeld=>?_)
 refine tk op0 (v:=?_) (by kernel_rfl) ?_ (by assumption) ?_ fun _ _ _ h=>h
 rotate_left
 ·(refine ya rfl fun w hSw=>?_;go_simp;rfl)
 try simp only[Act.put,pu1,pu2,pu3]
 refine tk op2 (v:=?_) (by kernel_rfl) ?_ (by assumption) ?_ fun _ _ _ h=>h
 rotate_left
 ·(refine ya rfl fun w hSw=>?_;go_simp;rfl)
 try simp only[Act.put,pu1,pu2,pu3]
 refine tk op3 (v:=?_) (by kernel_rfl) ?_ (by assumption) ?_ fun _ _ _ h=>h
 rotate_left
 ·(((refine yieldsIf_load_mid ?_ 29 (.tmp 16) ?_ g 0 ?_ C.toList _ ?_ HUT.out ?_ TI.out)<;>first|rfl|exact fun w h=>h.1))
 try simp only[Act.put,pu1,pu2,pu3]
 refine rd1 op1 (by kernel_rfl) fun K hK=>?_
 go_simp
 ((go_at_call 24;(with_reducible refine(KT.out _ _ HDW.out (List.mem_cons_of_mem _ HM.out)).mono ?_);rintro e wx ⟨rfl,hx⟩;dsimp only))
 refine hK.out _ _ ?_ fun hHeld=>?_
 ·(try dsimp only)<;>((exact FX.out _ _ hx (by simp)))
 clear hK K
 try simp only[Act.put,pu1,pu2,pu3]
 refine tk op4 (v:=?_) (by kernel_rfl) ?_ (by assumption) ?_ fun _ _ _ h=>h
 rotate_left
 ·(refine ya rfl fun w hSw=>?_;go_simp;rfl)
 try simp only[Act.put,pu1,pu2,pu3]
 refine tk op5 (v:=?_) (by kernel_rfl) ?_ (by assumption) ?_ fun _ _ _ h=>h
 rotate_left
 ·(refine ya rfl fun w hSw=>?_;go_simp;rfl)
 try simp only[Act.put,pu1,pu2,pu3]
 refine tk op6 (v:=?_) (by kernel_rfl) ?_ (by assumption) ?_ fun _ _ _ h=>h
 rotate_left
 ·(refine ya rfl fun w hSw=>?_;go_simp;rfl)
 try simp only[Act.put,pu1,pu2,pu3]
 refine tk op7 (v:=?_) (by kernel_rfl) ?_ (by assumption) ?_ fun _ _ _ h=>h
 rotate_left
 ·(refine ya rfl fun w hSw=>?_;go_simp;rfl)
 try simp only[Act.put,pu1,pu2,pu3]
 refine tk op8 (v:=?_) (by kernel_rfl) ?_ (by assumption) ?_ fun _ _ _ h=>h
 rotate_left
 ·((refine Or.inl ⟨by rfl,?_⟩;intro w hSw;obtain⟨hS1,hS2,hS3,hS4,hS5⟩:=hSw;go_simp;try with_reducible rfl))
 try simp only[Act.put,pu1,pu2,pu3]
 refine tk op9 (v:=?_) (by kernel_rfl) ?_ (by assumption) ?_ fun _ _ _ h=>h
 rotate_left
 ·(refine ya rfl fun w hSw=>?_;go_simp;rfl)
 try simp only[Act.put,pu1,pu2,pu3]
 refine tk (oq op0) (v:=?_) (by kernel_rfl) ?_ (by assumption) ?_ fun _ _ _ h=>h
 rotate_left
 ·(refine ya rfl fun w hSw=>?_;go_simp;rfl)
 try simp only[Act.put,pu1,pu2,pu3]
 refine tk (oq op1) (v:=?_) (by kernel_rfl) ?_ (by assumption) ?_ fun _ _ _ h=>h
 rotate_left
 ·(refine ya rfl fun w hSw=>?_;go_simp;rfl)
 try simp only[Act.put,pu1,pu2,pu3]
 refine tk (oq op2) (v:=?_) (by kernel_rfl) ?_ (by assumption) ?_ fun _ _ _ h=>h
 rotate_left
 ·(refine ya rfl fun w hSw=>?_;go_simp;rfl)
 try simp only[Act.put,pu1,pu2,pu3]
 refine tk (oq op3) (v:=?_) (by kernel_rfl) ?_ (by assumption) ?_ fun _ _ _ h=>h
 rotate_left
 ·(refine ya rfl fun w hSw=>?_;go_simp;rfl)
 try simp only[Act.put,pu1,pu2,pu3]
 refine tk (oq op4) (v:=?_) (by kernel_rfl) ?_ (by assumption) ?_ fun _ _ _ h=>h
 rotate_left
 ·((refine Or.inl ⟨by rfl,?_⟩;intro w hSw;obtain⟨hS1,hS2,hS3,hS4,hS5⟩:=hSw;go_simp;try with_reducible rfl))
 try simp only[Act.put,pu1,pu2,pu3]
 refine tk (oq op5) (v:=?_) (by kernel_rfl) ?_ (by assumption) ?_ fun _ _ _ h=>h
 rotate_left
 ·(refine ya rfl fun w hSw=>?_;go_simp;rfl)
 try simp only[Act.put,pu1,pu2,pu3]
 refine tk (oq op6) (v:=?_) (by kernel_rfl) ?_ (by assumption) ?_ fun _ _ _ h=>h
 rotate_left
 ·(refine ya rfl fun w hSw=>?_;go_simp;rfl)
 try simp only[Act.put,pu1,pu2,pu3]
 refine tk (oq op7) (v:=?_) (by kernel_rfl) ?_ (by assumption) ?_ fun _ _ _ h=>h
 rotate_left
 ·(refine ya rfl fun w hSw=>?_;go_simp;rfl)
 try simp only[Act.put,pu1,pu2,pu3]
 refine tk (oq op8) (v:=?_) (by kernel_rfl) ?_ (by assumption) ?_ fun _ _ _ h=>h
 rotate_left
 ·(refine ya rfl fun w hSw=>?_;go_simp;rfl)
 try simp only[Act.put,pu1,pu2,pu3]
 refine tk (oq op9) (v:=?_) (by kernel_rfl) ?_ (by assumption) ?_ fun _ _ _ h=>h
 rotate_left
 ·(refine ya rfl fun w hSw=>?_;go_simp;rfl)
 try simp only[Act.put,pu1,pu2,pu3]
 refine tk (oq (oq op0)) (v:=?_) (by kernel_rfl) ?_ (by assumption) ?_ fun _ _ _ h=>h
 rotate_left
 ·((refine Or.inl ⟨by rfl,?_⟩;intro w hSw;obtain⟨hS1,hS2,hS3,hS4,hS5⟩:=hSw;go_simp;try with_reducible rfl))
 try simp only[Act.put,pu1,pu2,pu3]
 refine tk (oq (oq op1)) (v:=?_) (by kernel_rfl) ?_ (by assumption) ?_ fun _ _ _ h=>h
 rotate_left
 ·(refine ya rfl fun w hSw=>?_;go_simp;rfl)
 try simp only[Act.put,pu1,pu2,pu3]
 refine tk (oq (oq op2)) (v:=?_) (by kernel_rfl) ?_ (by assumption) ?_ fun _ _ _ h=>h
 rotate_left
 ·(refine ya rfl fun w hSw=>?_;go_simp;rfl)
 try simp only[Act.put,pu1,pu2,pu3]
 refine tk (oq (oq op3)) (v:=?_) (by kernel_rfl) ?_ (by assumption) ?_ fun _ _ _ h=>h
 rotate_left
 ·(refine ya rfl fun w hSw=>?_;go_simp;rfl)
 try simp only[Act.put,pu1,pu2,pu3]
 refine tk (oq (oq op4)) (v:=?_) (by kernel_rfl) ?_ (by assumption) ?_ fun _ _ _ h=>h
 rotate_left
 ·(refine ya rfl fun w hSw=>?_;go_simp;rfl)
 try simp only[Act.put,pu1,pu2,pu3]
 refine tk (oq (oq op6)) (v:=?_) (by kernel_rfl) ?_ (by assumption) ?_ fun _ _ _ h=>h
 rotate_left
 ·(refine ya rfl fun w hSw=>?_;go_simp;rfl)
 try simp only[Act.put,pu1,pu2,pu3]
 refine tk (oq (oq op7)) (v:=?_) (by kernel_rfl) ?_ (by assumption) ?_ fun _ _ _ h=>h
 rotate_left
 ·((refine Or.inl ⟨by rfl,?_⟩;intro w hSw;obtain⟨hS1,hS2,hS3,hS4,hS5⟩:=hSw;go_simp;try with_reducible rfl))
 try simp only[Act.put,pu1,pu2,pu3]
 refine rd1 (oq (oq op5)) (by kernel_rfl) fun K hK=>?_
 go_simp
 ((go_at_call 23;(with_reducible refine(KL.out _ _ hx (List.mem_cons_of_mem _ HM.out)).mono ?_);rintro e wy ⟨rfl,rfl⟩;dsimp only))
 refine hK.out _ _ ?_ fun hHeld=>?_
 ·(try dsimp only)<;>((exact FX.out _ _ hx (by simp)))
 clear hK K
 try simp only[Act.put,pu1,pu2,pu3]
 refine tk (oq (oq op8)) (v:=?_) (by kernel_rfl) ?_ (by assumption) ?_ fun _ _ _ h=>h
 rotate_left
 ·(refine ya rfl fun w hSw=>?_;go_simp;rfl)
 try simp only[Act.put,pu1,pu2,pu3]
 refine tk (oq (oq op9)) (v:=?_) (by kernel_rfl) ?_ (by assumption) ?_ fun _ _ _ h=>h
 rotate_left
 ·(refine ya rfl fun w hSw=>?_;go_simp;rfl)
 try simp only[Act.put,pu1,pu2,pu3]
 refine tk (oq (oq (oq op0))) (v:=?_) (by kernel_rfl) ?_ (by assumption) ?_ fun _ _ _ h=>h
 rotate_left
 ·(refine ya rfl fun w hSw=>?_;go_simp;rfl)
 try simp only[Act.put,pu1,pu2,pu3]
 refine wpAnyH_done (by kernel_rfl) ?_ _;go_wp2_with fail;go_ret;exact⟨rfl,hx.weaken (A:=[_])⟩
end
end
end Go.Proofs.YtnjnooeldkideaaGreatDoor
