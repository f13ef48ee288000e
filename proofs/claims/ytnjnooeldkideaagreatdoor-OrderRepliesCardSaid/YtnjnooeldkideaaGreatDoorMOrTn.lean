/- order: in whichever order the spans are told: in plain Lean. order: what the log says can be: in plain Lean. order: one job at a time: in plain Lean. -/
import Derived.Test.YtnjnooeldkideaaGreatDoorMOrOv
namespace Go.Proofs.YtnjnooeldkideaaGreatDoor
section
set_option linter.unusedVariables false
set_option linter.unusedSimpArgs false
open Go.RowKit Go.Lib Go.Deep
end

section
set_option linter.unusedVariables false
set_option linter.unusedSimpArgs false
open Go.RowKit Go.Lib Go.Deep
theorem applyT_nil {t:Tb} (h:(zv t []).2=0):(zv t []).1=t:=by
 unfold zv at h ⊢
 split
 ·rename_i hc
  simp[yl]
 ·rename_i hc
  rw[if_neg hc]at h;exact absurd h (by decide)
theorem called_some {m m':Md} {ns:List ByteArray} {e:En} (h:calledM m ns e=some m'):y3 e.call=true∧(storedA m (askA m ns e.call) e.store).2=true∧(storedA m (askA m ns e.call) e.store).1.rep=e.rep∧(zv m.known (storedA m (askA m ns e.call) e.store).1.l).2=0∧
  m'=⟨(zv m.known (storedA m (askA m ns e.call) e.store).1.l).1,m.tries,(storedA m (askA m ns e.call) e.store).1.job,(storedA m (askA m ns e.call) e.store).1.began⟩:=by
 unfold calledM at h
 split at h
 ·rename_i h1
  split at h
  ·rename_i h2
   split at h
   ·rename_i h3
    injection h with h
    exact⟨h1.2,h2.1,(zao _ _).1 h2.2,h3,h.symm⟩
   ·cases h
  ·cases h
 ·cases h
theorem storedA_ne {m:Md} {a:An} {x:Int} (hx:x≠0) (h:(storedA m a x).2=true):storedA m a x=(refA m x,true)∧keptB x=true∧a.keeps=true:=by
 unfold storedA at h ⊢
 split
 ·rename_i hc
  rw[if_pos hc]at h
  cases h
 ·rename_i hc
  simp only[if_pos hx]
  have hb:(x != 0)=true:=by simpa using hx
  rw[hb]at hc;simp only[Bool.true_and,Bool.or_eq_true,Bool.not_eq_true',not_or,Bool.not_eq_false]at hc;exact⟨trivial,hc.1,hc.2⟩
theorem uy (m:Md) (a:An):storedA m a 0=(a,true):=by
 unfold storedA;rw[if_neg (by simp[keptB]),if_neg (by decide)]
theorem called_skip {m m':Md} {ns:List ByteArray} {e:En} (h:calledM m ns e=some m') (hs:e.store≠0):m'=m:=by
 obtain⟨_,h2,_,h4,h5⟩:=called_some h;have:=(storedA_ne hs h2).1;rw[this]at h4 h5;have h6:(zv m.known (refA m e.store).l).1=m.known:=applyT_nil h4;rw[h5]
 show(⟨(zv m.known (refA m e.store).l).1,m.tries,m.job,m.began⟩:Md)=m
 rw[h6]
structure Seen (R:List Sp) (es:List En):Prop where
 left:∀y∈R,0 < y.upto→∃e∈es,e.kind=1∧e.serial=y.serial
 has:∀e∈es,e.kind=1→∃y∈R,y.serial=e.serial∧e.call=y.call∧(0 < y.upto→e.rep=y.rep)
 one:R.Pairwise (fun a b=>a.serial≠b.serial)
 ones:es.Pairwise (fun a b=>a.kind=1→b.kind=1→a.serial≠b.serial)
 order:es.Pairwise (fun a b=>a.kind=1→b.kind=1→∀x∈R,∀y∈R,x.serial=a.serial→y.serial=b.serial→aheadB y x=false)
end

section
set_option linter.unusedVariables false
set_option linter.unusedSimpArgs false
open Go.RowKit Go.Lib Go.Deep
def StepS (e:En) (a b:Slt):Prop:=(b.st=2→a.st=2∨(e.kind=2∧e.state=2))∧(b.st=3→a.st=2∨a.st=3)
theorem StepS.refl (e:En) (a:Slt):StepS e a a:=⟨.inl,.inr⟩
def SafeC (e:En) (t:Tb) (c:Cg):Prop:=c.kind=1→∀a,(c.slot=0→a=t.s0)→(c.slot≠0→a=t.s1)→StepS e a c.tos
structure StepT (e:En) (t u:Tb):Prop where
 s0:StepS e t.s0 u.s0
 s1:StepS e t.s1 u.s1
 flo:t.flo≤u.flo
 right:zx t=true→zx u=true
theorem ku (t:Tb):zx t=true↔rightS t.s0=true∧rightS t.s1=true∧ixB t.act=true∧(t.boo==-1||ixB t.boo)=true∧t.flo≤281474976710656:=by
 unfold zx;simp only[Bool.and_eq_true,decide_eq_true_eq]
theorem uf {e:En} (t0:Tb):∀(cs:List Cg) (t u:Tb),(∀c∈cs,SafeC e t0 c)→(∀c∈cs,crT c=true)→StepT e t0 t→yl t cs=some u→StepT e t0 u
 | [],t,u,_,_,h,ha=>by
  unfold yl at ha
  injection ha with ha
  exact ha ▸ h
 | c::cs,t,u,hs,hc,h,ha=>by
  have hs0:=hs c (List.mem_cons_self ..);have hc0:=hc c (List.mem_cons_self ..)
  have hs':=fun x hx=>hs x (List.mem_cons_of_mem _ hx)
  have hc':=fun x hx=>hc x (List.mem_cons_of_mem _ hx)
  unfold yl at ha;unfold crT at hc0
  split at ha
  ·rename_i hk
   rw[if_pos hk]at hc0;simp only[Bool.and_eq_true]at hc0;refine uf t0 cs _ u hs' hc' ?_ ha;unfold Tb.put
   split
   ·rename_i hi
    exact⟨hs0 hk _ (fun _=>rfl) (fun h=>absurd hi h),h.s1,h.flo,fun hr=>(ku _).2 ⟨hc0.2,((ku _).1 (h.right hr)).2⟩⟩
   ·rename_i hi
    refine⟨h.s0,hs0 hk _ (fun h=>absurd h hi) (fun _=>rfl),h.flo,fun hr=>?_⟩;obtain⟨g1,g2,g3⟩:=(ku _).1 (h.right hr);exact(ku _).2 ⟨g1,hc0.2,g3⟩
  ·rename_i hk
   rw[if_neg hk]at hc0
   split at ha
   ·rename_i hk2
    rw[if_pos hk2]at hc0;refine uf t0 cs { t with act:=c.n } u hs' hc' ⟨h.s0,h.s1,h.flo,fun hr=>?_⟩ ha;obtain⟨g1,g2,g3,g4⟩:=(ku _).1 (h.right hr);exact(ku _).2 ⟨g1,g2,hc0,g4⟩
   ·rename_i hk2
    rw[if_neg hk2]at hc0
    split at ha
    ·rename_i hk3
     rw[if_pos hk3]at hc0;refine uf t0 cs { t with boo:=c.n } u hs' hc' ⟨h.s0,h.s1,h.flo,fun hr=>?_⟩ ha;obtain⟨g1,g2,g3,g4,g5⟩:=(ku _).1 (h.right hr);exact(ku _).2 ⟨g1,g2,g3,hc0,g5⟩
    ·rename_i hk3
     rw[if_neg hk3,decide_eq_true_eq]at hc0
     split at ha
     ·cases ha
     ·rename_i hv
      refine uf t0 cs { t with flo:=c.ver } u hs' hc' ⟨h.s0,h.s1,by show t0.flo≤c.ver;have:=h.flo;omega,fun hr=>?_⟩ ha;obtain⟨g1,g2,g3,g4,g5⟩:=(ku _).1 (h.right hr);exact(ku _).2 ⟨g1,g2,g3,g4,hc0⟩
theorem StepT.refl (e:En) (t:Tb):StepT e t t:=⟨StepS.refl _ _,StepS.refl _ _,Int.le_refl _,id⟩
theorem applyT_step {e:En} {t:Tb} {cs:List Cg} (hs:∀c∈cs,SafeC e t c) (h:(zv t cs).2=0):StepT e t (zv t cs).1:=by
 unfold zv at h ⊢
 split at h
 ·rename_i hc
  rw[if_pos hc]
  cases ha:yl t cs with
  | none=>rw[ha]at h;exact absurd h (by show ¬(111:Int)=0;decide)
  | some u=>exact uf t cs t u hs (fun c hcm=>List.all_eq_true.1 hc.2 c hcm) (StepT.refl e t) ha
 ·exact absurd h (by show ¬(111:Int)=0;decide)
theorem za6 (e:En) (t:Tb) (i:Int):SafeC e t (actC i):=fun h=>absurd h (by show ¬(2:Int)=1;decide)
theorem safe_boo (e:En) (t:Tb) (i:Int):SafeC e t (booC i):=fun h=>absurd h (by show ¬(3:Int)=1;decide)
theorem safe_flo (e:En) (t:Tb) (i:Int):SafeC e t (floC i):=fun h=>absurd h (by show ¬(4:Int)=1;decide)
theorem at_eq {t:Tb} {i:Int} {a:Slt} (h0:i=0→a=t.s0) (h1:i≠0→a=t.s1):a=t.at_ i:=by
 unfold Tb.at_
 by_cases h:i=0
 ·rw[if_pos h];exact h0 h
 ·rw[if_neg h];exact h1 h
theorem zap {e:En} {t:Tb} {i:Int} {s:Slt} (h2:s.st≠2) (h3:s.st≠3):SafeC e t (setC i s):=fun _ _ _ _=>⟨fun h=>absurd h h2,fun h=>absurd h h3⟩
theorem bad_st (s:Slt):(badS s).1.st≠2∧(badS s).1.st≠3:=by
 unfold badS
 split
 ·exact⟨by show(4:Int)≠2;decide,by show(4:Int)≠3;decide⟩
 ·exact⟨by show(0:Int)≠2;decide,by show(0:Int)≠3;decide⟩
theorem safe_ask (m:Md) (ns:List ByteArray) (q:Cl) (e:En):∀c∈(askA m ns q).l,SafeC e m.known c:=by
 have nil:∀(x:Int),∀c∈(refA m x).l,SafeC e m.known c:=fun _ c hc=>by cases hc
 have said:∀(l:List Cg) (x:Int),(x=0→∀c∈l,SafeC e m.known c)→∀c∈(saidA m l x).l,SafeC e m.known c:=fun l x h=>by
  unfold saidA
  split
  ·rename_i hx
   exact h hx
  ·exact nil x
 unfold askA
 split
 ·unfold instA
  split
  ·exact nil 251
  ·split
   ·exact nil 182
   ·split
    ·exact nil 101
    ·intro c hc
     have hc:c∈(wipeT m.known).1:=hc;unfold wipeT at hc
     split at hc
     ·cases hc
     ·rcases List.mem_cons.1 hc with rfl|hc
      ·exact zap (by show(1:Int)≠2;decide) (by show(1:Int)≠3;decide)
      ·cases hc
 ·split
  ·unfold cancA
   split
   ·exact nil 252
   ·intro c hc;cases hc
  ·split
   ·refine said _ _ fun h0 c hc=>?_
    unfold goodT at h0 hc
    split at h0
    ·rename_i hr
     rw[if_pos hr]at hc
     split at h0
     ·rename_i hg
      rw[if_pos hg]at hc
      have sg:SafeC e m.known (setC q.slot (goodS (m.known.at_ q.slot)).1):=fun _ a h1 h2=>by
       have ha:a=m.known.at_ q.slot:=at_eq h1 h2;subst ha;unfold goodS at hg ⊢
       split
       ·rename_i hf
        simp only[Bool.and_eq_true,fullS,Bool.or_eq_true,beq_iff_eq]at hf;exact⟨fun h=>absurd h (by show ¬(3:Int)=2;decide),fun _=>hf.2⟩
       ·rename_i hf
        rw[if_neg hf]at hg;exact absurd hg (by show ¬(101:Int)=0;decide)
      split at hc
      ·rcases List.mem_cons.1 hc with rfl|hc
       ·exact sg
       ·rcases List.mem_cons.1 hc with rfl|hc
        ·exact safe_flo _ _ _
        ·cases hc
      ·rcases List.mem_cons.1 hc with rfl|hc
       ·exact sg
       ·cases hc
     ·rename_i hg
      exact absurd h0 hg
    ·exact absurd h0 (by show ¬(101:Int)=0;decide)
   ·split
    ·split
     ·exact nil 251
     ·refine said _ _ fun h0 c hc=>?_
      unfold badT at hc;have hb:=bad_st (m.known.at_ q.slot)
      split at hc
      ·split at hc
       ·split at hc
        ·split at hc
         ·rcases List.mem_cons.1 hc with rfl|hc
          ·exact zap hb.1 hb.2
          ·rcases List.mem_cons.1 hc with rfl|hc
           ·exact za6 _ _ _
           ·cases hc
         ·rcases List.mem_cons.1 hc with rfl|hc
          ·exact zap hb.1 hb.2
          ·cases hc
        ·cases hc
       ·cases hc
      ·cases hc
    ·split
     ·unfold rebA
      split
      ·exact nil 251
      ·split
       ·exact nil 121
       ·intro c hc
        have hc:c∈(planT m.known).2:=hc;unfold planT at hc
        split at hc
        ·unfold planL at hc
         have hb:=bad_st (m.known.at_ m.known.act)
         rcases List.mem_append.1 hc with hc|hc
         ·split at hc
          ·cases hc
          ·rcases List.mem_append.1 hc with hc|hc
           ·split at hc
            ·rcases List.mem_cons.1 hc with rfl|hc
             ·exact zap hb.1 hb.2
             ·cases hc
            ·cases hc
           ·rcases List.mem_cons.1 hc with rfl|hc
            ·exact za6 _ _ _
            ·cases hc
         ·rcases List.mem_append.1 hc with hc|hc
          ·split at hc
           ·rename_i h2
            rcases List.mem_cons.1 hc with rfl|hc
            ·intro _ a h1 h3
             have ha:a=m.known.at_ (pickT m.known):=at_eq h1 h3;subst ha
             have h2:(m.known.at_ (pickT m.known)).st=2:=by simpa using h2
             exact⟨fun _=>.inl h2,fun _=>.inl h2⟩
            ·cases hc
           ·cases hc
          ·rcases List.mem_cons.1 hc with rfl|hc
           ·exact safe_boo _ _ _
           ·cases hc
        ·cases hc
     ·intro c hc
      cases hc
theorem safe_stored (m:Md) (ns:List ByteArray) (q:Cl) (e:En) (x:Int):∀c∈(storedA m (askA m ns q) x).1.l,SafeC e m.known c:=by
 unfold storedA
 split
 ·intro c hc;cases hc
 ·split
  ·intro c hc;cases hc
  ·exact safe_ask m ns q e
theorem ask_refused (m:Md) (ns:List ByteArray) (q:Cl) (h:(askA m ns q).rep.err≠0):(askA m ns q).l=[]:=by
 have said:∀(l:List Cg) (x:Int),(saidA m l x).rep.err≠0→(saidA m l x).l=[]:=fun l x h=>by
  unfold saidA at h ⊢
  split
  ·rename_i hx
   rw[if_pos hx]at h;exact absurd rfl h
  ·rfl
 unfold askA at h ⊢
 split at h
 ·rename_i hk
  rw[if_pos hk];unfold instA at h ⊢
  split
  ·rfl
  ·rename_i h1
   rw[if_neg h1]at h
   split
   ·rfl
   ·rename_i h2
    rw[if_neg h2]at h
    split
    ·rfl
    ·rename_i h3
     rw[if_neg h3]at h;exact absurd rfl h
 ·rename_i hk
  rw[if_neg hk]
  split at h
  ·rename_i hk
   rw[if_pos hk];unfold cancA
   split<;>rfl
  ·rename_i hk
   rw[if_neg hk]
   split at h
   ·rename_i hk
    rw[if_pos hk];exact said _ _ h
   ·rename_i hk
    rw[if_neg hk]
    split at h
    ·rename_i hk
     rw[if_pos hk]
     split at h
     ·rename_i hk
      rw[if_pos hk]
      rfl
     ·rename_i hk
      rw[if_neg hk];exact said _ _ h
    ·rename_i hk
     rw[if_neg hk]
     split at h
     ·rename_i hk
      rw[if_pos hk];unfold rebA at h ⊢
      split
      ·rfl
      ·rename_i h1
       rw[if_neg h1]at h
       split
       ·rfl
       ·rename_i h2
        rw[if_neg h2]at h;exact absurd rfl h
     ·rename_i hk
      rw[if_neg hk]
      rfl
theorem began_other (m:Md) (ns:List ByteArray) (q:Cl) (h:q.kind=1→(askA m ns q).rep.err≠0):(askA m ns q).began=m.began:=by
 by_cases hk:q.kind=1
 ·have h:=h hk
  unfold askA at h ⊢;rw[if_pos hk]at h ⊢;unfold instA at h ⊢
  split
  ·rfl
  ·rename_i h1
   rw[if_neg h1]at h
   split
   ·rfl
   ·rename_i h2
    rw[if_neg h2]at h
    split
    ·rfl
    ·rename_i h3
     rw[if_neg h3]at h;exact absurd rfl h
 ·unfold askA
  rw[if_neg hk]
  split
  ·unfold cancA
   split<;>rfl
  ·split
   ·exact uk _ _
   ·split
    ·split
     ·rfl
     ·exact uk _ _
    ·split
     ·unfold rebA
      split
      ·rfl
      ·split<;>rfl
     ·rfl
theorem inst_begins (m:Md) (ns:List ByteArray) (q:Cl) (hk:q.kind=1) (h:(askA m ns q).rep.err=0):m.job.live=false∧(askA m ns q).job.live=true∧(askA m ns q).rep.job=m.began+1∧(askA m ns q).began=m.began+1:=by
 unfold askA at h ⊢;rw[if_pos hk]at h ⊢;unfold instA at h ⊢
 split at h
 ·exact absurd h (by show ¬(251:Int)=0;decide)
 ·rename_i h1
  rw[if_neg h1]
  split at h
  ·exact absurd h (by show ¬(182:Int)=0;decide)
  ·rename_i h2
   rw[if_neg h2]
   split at h
   ·exact absurd h (by show ¬(101:Int)=0;decide)
   ·rename_i h3
    rw[if_neg h3];exact⟨by simpa using h1,rfl,rfl,rfl⟩
structure JobStep (m m':Md) (e:En):Prop where
 inst:e.kind=1→e.call.kind=1→e.rep.err=0→m.job.live=false∧m'.job.live=true∧e.rep.job=m.began+1∧m'.began=m.began+1
 other:¬(e.kind=1∧e.call.kind=1∧e.rep.err=0)→m'.began=m.began
 ends : e.kind = 2 → m.job.live = true ∧ m'.job.live = false
 step:StepT e m.known m'.known
 same:e.kind=1→(e.rep.err≠0∨y3 e.call=false)→m'.known=m.known
 kind:e.kind=1∨e.kind=2
 right:e.kind=1→y3 e.call=true
theorem do_step {m m':Md} {ns:List ByteArray} {e:En} (h:doM m ns e=some m'):JobStep m m' e:=by
 unfold doM at h
 by_cases hk:e.kind=1
 ·rw[if_pos hk]at h
  obtain⟨h1,h2,h3,h4,h5⟩:=called_some h;have hst:=applyT_step (safe_stored m ns e.call e e.store) h4
  have n2:e.kind≠2:=by omega
  by_cases h0:e.store=0
  ·rw[h0,uy]at h3 h4 h5 hst
   simp only at h3 h4 h5 hst;refine⟨fun _ hc he=>?_,fun hno=>?_,fun h=>absurd h n2,by rw[h5];exact hst,fun _ he=>?_,.inl hk,fun _=>h1⟩
   ·rw[←h3]at he ⊢
    obtain⟨g1,g2,g3,g4⟩:=inst_begins m ns e.call hc he;rw[h5];exact⟨g1,g2,g3,g4⟩
   ·rw[h5]
    refine began_other m ns e.call fun hc he=>hno ⟨hk,hc,?_⟩
    rw[←h3];exact he
   ·rcases he with he|he
    ·rw[←h3]at he
     rw[ask_refused m ns e.call he]at h4 h5;rw[h5];exact applyT_nil h4
    ·rw[h1]at he;cases he
  ·have hs:=(storedA_ne h0 h2).1
   rw[hs]at h3
   have he0:e.rep.err=e.store:=by rw[←h3];rfl
   have hm:=called_skip h h0;subst hm;exact⟨fun _ _ he=>absurd (he0.symm.trans he) h0,fun _=>rfl,fun h=>absurd h n2,StepT.refl _ _,fun _ _=>rfl,.inl hk,fun _=>h1⟩
 ·rw[if_neg hk]at h
  by_cases hk2:e.kind=2
  ·rw[if_pos hk2]at h
   unfold endedM at h
   split at h
   ·rename_i hb
    split at h
    ·rename_i hs2
     split at h
     ·unfold landsM at h
      split at h
      ·cases h
      ·split at h
       ·rename_i hl0
        split at h
        ·rename_i ha0
         simp only[Option.map_some,Option.some.injEq]at h;subst h;refine⟨fun h=>absurd h hk,fun _=>rfl,fun _=>⟨hb.2,rfl⟩,?_,fun h=>absurd h hk,.inr hk2,fun h=>absurd h hk⟩;refine applyT_step (fun c hc=>?_) ha0;unfold landT at hl0 hc
         split at hc
         ·rename_i hcc
          rcases List.mem_cons.1 hc with rfl|hc
          ·have h2:e.slot.st=2:=hcc.2.2.2.2.2
           exact fun _ _ _ _=>⟨fun _=>.inr ⟨hk2,hs2⟩,fun h=>absurd (h2.symm.trans h) (by decide)⟩
          ·rcases List.mem_cons.1 hc with rfl|hc
           ·exact za6 _ _ _
           ·cases hc
         ·cases hc
        ·cases h
       ·cases h
     ·cases h
    ·split at h
     ·split at h
      ·cases h
      ·injection h with h
       subst h;exact⟨fun h=>absurd h hk,fun _=>rfl,fun _=>⟨hb.2,rfl⟩,StepT.refl _ _,fun h=>absurd h hk,.inr hk2,fun h=>absurd h hk⟩
     ·cases h
   ·cases h
  ·rw[if_neg hk2]at h
   cases h
end
end Go.Proofs.YtnjnooeldkideaaGreatDoor
