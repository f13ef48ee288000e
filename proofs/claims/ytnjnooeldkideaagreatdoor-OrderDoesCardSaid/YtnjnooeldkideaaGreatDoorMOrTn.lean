/- order: in whichever order the spans are told: in plain Lean. order: what the log says can be: in plain Lean. order: one job at a time: in plain Lean. order: the document's answers beside the program's own: in plain Lean. -/
import Derived.Test.YtnjnooeldkideaaGreatDoorMOrOv
import Derived.Test.YtnjnooeldkideaaGreatDoorRfQ
namespace Go.Proofs.YtnjnooeldkideaaGreatDoor
section
set_option linter.unusedVariables false
set_option linter.unusedSimpArgs false
open Go.RowKit Go.Lib Go.Deep
end

section
set_option linter.unusedVariables false
set_option linter.unusedSimpArgs false
open Go.RowKit Go.Lib Go.Deep
theorem applyT_nil {t:Tb} (h:(zv t []).2=0):(zv t []).1=t:=by
 unfold zv at h ⊢
 split
 ·rename_i hc
  simp[yl]
 ·rename_i hc
  rw[if_neg hc]at h;exact absurd h (by decide)
theorem called_some {m m':Md} {ns:List ByteArray} {e:En} (h:calledM m ns e=some m'):y3 e.call=true∧(storedA m (askA m ns e.call) e.store).2=true∧(storedA m (askA m ns e.call) e.store).1.rep=e.rep∧(zv m.known (storedA m (askA m ns e.call) e.store).1.l).2=0∧
  m'=⟨(zv m.known (storedA m (askA m ns e.call) e.store).1.l).1,m.tries,(storedA m (askA m ns e.call) e.store).1.job,(storedA m (askA m ns e.call) e.store).1.began⟩:=by
 unfold calledM at h
 split at h
 ·rename_i h1
  split at h
  ·rename_i h2
   split at h
   ·rename_i h3
    injection h with h
    exact⟨h1.2,h2.1,(zao _ _).1 h2.2,h3,h.symm⟩
   ·cases h
  ·cases h
 ·cases h
theorem storedA_ne {m:Md} {a:An} {x:Int} (hx:x≠0) (h:(storedA m a x).2=true):storedA m a x=(refA m x,true)∧keptB x=true∧a.keeps=true:=by
 unfold storedA at h ⊢
 split
 ·rename_i hc
  rw[if_pos hc]at h
  cases h
 ·rename_i hc
  simp only[if_pos hx]
  have hb:(x != 0)=true:=by simpa using hx
  rw[hb]at hc;simp only[Bool.true_and,Bool.or_eq_true,Bool.not_eq_true',not_or,Bool.not_eq_false]at hc;exact⟨trivial,hc.1,hc.2⟩
theorem uy (m:Md) (a:An):storedA m a 0=(a,true):=by
 unfold storedA;rw[if_neg (by simp[keptB]),if_neg (by decide)]
theorem called_skip {m m':Md} {ns:List ByteArray} {e:En} (h:calledM m ns e=some m') (hs:e.store≠0):m'=m:=by
 obtain⟨_,h2,_,h4,h5⟩:=called_some h;have:=(storedA_ne hs h2).1;rw[this]at h4 h5;have h6:(zv m.known (refA m e.store).l).1=m.known:=applyT_nil h4;rw[h5]
 show(⟨(zv m.known (refA m e.store).l).1,m.tries,m.job,m.began⟩:Md)=m
 rw[h6]
structure Seen (R:List Sp) (es:List En):Prop where
 left:∀y∈R,0 < y.upto→∃e∈es,e.kind=1∧e.serial=y.serial
 has:∀e∈es,e.kind=1→∃y∈R,y.serial=e.serial∧e.call=y.call∧(0 < y.upto→e.rep=y.rep)
 one:R.Pairwise (fun a b=>a.serial≠b.serial)
 ones:es.Pairwise (fun a b=>a.kind=1→b.kind=1→a.serial≠b.serial)
 order:es.Pairwise (fun a b=>a.kind=1→b.kind=1→∀x∈R,∀y∈R,x.serial=a.serial→y.serial=b.serial→aheadB y x=false)
end

section
set_option linter.unusedVariables false
set_option linter.unusedSimpArgs false
open Go.RowKit Go.Lib Go.Deep
def StepS (e:En) (a b:Slt):Prop:=(b.st=2→a.st=2∨(e.kind=2∧e.state=2))∧(b.st=3→a.st=2∨a.st=3)
theorem StepS.refl (e:En) (a:Slt):StepS e a a:=⟨.inl,.inr⟩
def SafeC (e:En) (t:Tb) (c:Cg):Prop:=c.kind=1→∀a,(c.slot=0→a=t.s0)→(c.slot≠0→a=t.s1)→StepS e a c.tos
structure StepT (e:En) (t u:Tb):Prop where
 s0:StepS e t.s0 u.s0
 s1:StepS e t.s1 u.s1
 flo:t.flo≤u.flo
 right:zx t=true→zx u=true
theorem ku (t:Tb):zx t=true↔rightS t.s0=true∧rightS t.s1=true∧ixB t.act=true∧(t.boo==-1||ixB t.boo)=true∧t.flo≤281474976710656:=by
 unfold zx;simp only[Bool.and_eq_true,decide_eq_true_eq]
theorem uf {e:En} (t0:Tb):∀(cs:List Cg) (t u:Tb),(∀c∈cs,SafeC e t0 c)→(∀c∈cs,crT c=true)→StepT e t0 t→yl t cs=some u→StepT e t0 u
 | [],t,u,_,_,h,ha=>by
  unfold yl at ha
  injection ha with ha
  exact ha ▸ h
 | c::cs,t,u,hs,hc,h,ha=>by
  have hs0:=hs c (List.mem_cons_self ..);have hc0:=hc c (List.mem_cons_self ..)
  have hs':=fun x hx=>hs x (List.mem_cons_of_mem _ hx)
  have hc':=fun x hx=>hc x (List.mem_cons_of_mem _ hx)
  unfold yl at ha;unfold crT at hc0
  split at ha
  ·rename_i hk
   rw[if_pos hk]at hc0;simp only[Bool.and_eq_true]at hc0;refine uf t0 cs _ u hs' hc' ?_ ha;unfold Tb.put
   split
   ·rename_i hi
    exact⟨hs0 hk _ (fun _=>rfl) (fun h=>absurd hi h),h.s1,h.flo,fun hr=>(ku _).2 ⟨hc0.2,((ku _).1 (h.right hr)).2⟩⟩
   ·rename_i hi
    refine⟨h.s0,hs0 hk _ (fun h=>absurd h hi) (fun _=>rfl),h.flo,fun hr=>?_⟩;obtain⟨g1,g2,g3⟩:=(ku _).1 (h.right hr);exact(ku _).2 ⟨g1,hc0.2,g3⟩
  ·rename_i hk
   rw[if_neg hk]at hc0
   split at ha
   ·rename_i hk2
    rw[if_pos hk2]at hc0;refine uf t0 cs { t with act:=c.n } u hs' hc' ⟨h.s0,h.s1,h.flo,fun hr=>?_⟩ ha;obtain⟨g1,g2,g3,g4⟩:=(ku _).1 (h.right hr);exact(ku _).2 ⟨g1,g2,hc0,g4⟩
   ·rename_i hk2
    rw[if_neg hk2]at hc0
    split at ha
    ·rename_i hk3
     rw[if_pos hk3]at hc0;refine uf t0 cs { t with boo:=c.n } u hs' hc' ⟨h.s0,h.s1,h.flo,fun hr=>?_⟩ ha;obtain⟨g1,g2,g3,g4,g5⟩:=(ku _).1 (h.right hr);exact(ku _).2 ⟨g1,g2,g3,hc0,g5⟩
    ·rename_i hk3
     rw[if_neg hk3,decide_eq_true_eq]at hc0
     split at ha
     ·cases ha
     ·rename_i hv
      refine uf t0 cs { t with flo:=c.ver } u hs' hc' ⟨h.s0,h.s1,by show t0.flo≤c.ver;have:=h.flo;omega,fun hr=>?_⟩ ha;obtain⟨g1,g2,g3,g4,g5⟩:=(ku _).1 (h.right hr);exact(ku _).2 ⟨g1,g2,g3,g4,hc0⟩
theorem StepT.refl (e:En) (t:Tb):StepT e t t:=⟨StepS.refl _ _,StepS.refl _ _,Int.le_refl _,id⟩
theorem applyT_step {e:En} {t:Tb} {cs:List Cg} (hs:∀c∈cs,SafeC e t c) (h:(zv t cs).2=0):StepT e t (zv t cs).1:=by
 unfold zv at h ⊢
 split at h
 ·rename_i hc
  rw[if_pos hc]
  cases ha:yl t cs with
  | none=>rw[ha]at h;exact absurd h (by show ¬(111:Int)=0;decide)
  | some u=>exact uf t cs t u hs (fun c hcm=>List.all_eq_true.1 hc.2 c hcm) (StepT.refl e t) ha
 ·exact absurd h (by show ¬(111:Int)=0;decide)
theorem za6 (e:En) (t:Tb) (i:Int):SafeC e t (actC i):=fun h=>absurd h (by show ¬(2:Int)=1;decide)
theorem safe_boo (e:En) (t:Tb) (i:Int):SafeC e t (booC i):=fun h=>absurd h (by show ¬(3:Int)=1;decide)
theorem safe_flo (e:En) (t:Tb) (i:Int):SafeC e t (floC i):=fun h=>absurd h (by show ¬(4:Int)=1;decide)
theorem at_eq {t:Tb} {i:Int} {a:Slt} (h0:i=0→a=t.s0) (h1:i≠0→a=t.s1):a=t.at_ i:=by
 unfold Tb.at_
 by_cases h:i=0
 ·rw[if_pos h];exact h0 h
 ·rw[if_neg h];exact h1 h
theorem zap {e:En} {t:Tb} {i:Int} {s:Slt} (h2:s.st≠2) (h3:s.st≠3):SafeC e t (setC i s):=fun _ _ _ _=>⟨fun h=>absurd h h2,fun h=>absurd h h3⟩
theorem bad_st (s:Slt):(badS s).1.st≠2∧(badS s).1.st≠3:=by
 unfold badS
 split
 ·exact⟨by show(4:Int)≠2;decide,by show(4:Int)≠3;decide⟩
 ·exact⟨by show(0:Int)≠2;decide,by show(0:Int)≠3;decide⟩
theorem safe_ask (m:Md) (ns:List ByteArray) (q:Cl) (e:En):∀c∈(askA m ns q).l,SafeC e m.known c:=by
 have nil:∀(x:Int),∀c∈(refA m x).l,SafeC e m.known c:=fun _ c hc=>by cases hc
 have said:∀(l:List Cg) (x:Int),(x=0→∀c∈l,SafeC e m.known c)→∀c∈(saidA m l x).l,SafeC e m.known c:=fun l x h=>by
  unfold saidA
  split
  ·rename_i hx
   exact h hx
  ·exact nil x
 unfold askA
 split
 ·unfold instA
  split
  ·exact nil 251
  ·split
   ·exact nil 182
   ·split
    ·exact nil 101
    ·intro c hc
     have hc:c∈(wipeT m.known).1:=hc;unfold wipeT at hc
     split at hc
     ·cases hc
     ·rcases List.mem_cons.1 hc with rfl|hc
      ·exact zap (by show(1:Int)≠2;decide) (by show(1:Int)≠3;decide)
      ·cases hc
 ·split
  ·unfold cancA
   split
   ·exact nil 252
   ·intro c hc;cases hc
  ·split
   ·refine said _ _ fun h0 c hc=>?_
    unfold goodT at h0 hc
    split at h0
    ·rename_i hr
     rw[if_pos hr]at hc
     split at h0
     ·rename_i hg
      rw[if_pos hg]at hc
      have sg:SafeC e m.known (setC q.slot (goodS (m.known.at_ q.slot)).1):=fun _ a h1 h2=>by
       have ha:a=m.known.at_ q.slot:=at_eq h1 h2;subst ha;unfold goodS at hg ⊢
       split
       ·rename_i hf
        simp only[Bool.and_eq_true,fullS,Bool.or_eq_true,beq_iff_eq]at hf;exact⟨fun h=>absurd h (by show ¬(3:Int)=2;decide),fun _=>hf.2⟩
       ·rename_i hf
        rw[if_neg hf]at hg;exact absurd hg (by show ¬(101:Int)=0;decide)
      split at hc
      ·rcases List.mem_cons.1 hc with rfl|hc
       ·exact sg
       ·rcases List.mem_cons.1 hc with rfl|hc
        ·exact safe_flo _ _ _
        ·cases hc
      ·rcases List.mem_cons.1 hc with rfl|hc
       ·exact sg
       ·cases hc
     ·rename_i hg
      exact absurd h0 hg
    ·exact absurd h0 (by show ¬(101:Int)=0;decide)
   ·split
    ·split
     ·exact nil 251
     ·refine said _ _ fun h0 c hc=>?_
      unfold badT at hc;have hb:=bad_st (m.known.at_ q.slot)
      split at hc
      ·split at hc
       ·split at hc
        ·split at hc
         ·rcases List.mem_cons.1 hc with rfl|hc
          ·exact zap hb.1 hb.2
          ·rcases List.mem_cons.1 hc with rfl|hc
           ·exact za6 _ _ _
           ·cases hc
         ·rcases List.mem_cons.1 hc with rfl|hc
          ·exact zap hb.1 hb.2
          ·cases hc
        ·cases hc
       ·cases hc
      ·cases hc
    ·split
     ·unfold rebA
      split
      ·exact nil 251
      ·split
       ·exact nil 121
       ·intro c hc
        have hc:c∈(planT m.known).2:=hc;unfold planT at hc
        split at hc
        ·unfold planL at hc
         have hb:=bad_st (m.known.at_ m.known.act)
         rcases List.mem_append.1 hc with hc|hc
         ·split at hc
          ·cases hc
          ·rcases List.mem_append.1 hc with hc|hc
           ·split at hc
            ·rcases List.mem_cons.1 hc with rfl|hc
             ·exact zap hb.1 hb.2
             ·cases hc
            ·cases hc
           ·rcases List.mem_cons.1 hc with rfl|hc
            ·exact za6 _ _ _
            ·cases hc
         ·rcases List.mem_append.1 hc with hc|hc
          ·split at hc
           ·rename_i h2
            rcases List.mem_cons.1 hc with rfl|hc
            ·intro _ a h1 h3
             have ha:a=m.known.at_ (pickT m.known):=at_eq h1 h3;subst ha
             have h2:(m.known.at_ (pickT m.known)).st=2:=by simpa using h2
             exact⟨fun _=>.inl h2,fun _=>.inl h2⟩
            ·cases hc
           ·cases hc
          ·rcases List.mem_cons.1 hc with rfl|hc
           ·exact safe_boo _ _ _
           ·cases hc
        ·cases hc
     ·intro c hc
      cases hc
theorem safe_stored (m:Md) (ns:List ByteArray) (q:Cl) (e:En) (x:Int):∀c∈(storedA m (askA m ns q) x).1.l,SafeC e m.known c:=by
 unfold storedA
 split
 ·intro c hc;cases hc
 ·split
  ·intro c hc;cases hc
  ·exact safe_ask m ns q e
theorem ask_refused (m:Md) (ns:List ByteArray) (q:Cl) (h:(askA m ns q).rep.err≠0):(askA m ns q).l=[]:=by
 have said:∀(l:List Cg) (x:Int),(saidA m l x).rep.err≠0→(saidA m l x).l=[]:=fun l x h=>by
  unfold saidA at h ⊢
  split
  ·rename_i hx
   rw[if_pos hx]at h;exact absurd rfl h
  ·rfl
 unfold askA at h ⊢
 split at h
 ·rename_i hk
  rw[if_pos hk];unfold instA at h ⊢
  split
  ·rfl
  ·rename_i h1
   rw[if_neg h1]at h
   split
   ·rfl
   ·rename_i h2
    rw[if_neg h2]at h
    split
    ·rfl
    ·rename_i h3
     rw[if_neg h3]at h;exact absurd rfl h
 ·rename_i hk
  rw[if_neg hk]
  split at h
  ·rename_i hk
   rw[if_pos hk];unfold cancA
   split<;>rfl
  ·rename_i hk
   rw[if_neg hk]
   split at h
   ·rename_i hk
    rw[if_pos hk];exact said _ _ h
   ·rename_i hk
    rw[if_neg hk]
    split at h
    ·rename_i hk
     rw[if_pos hk]
     split at h
     ·rename_i hk
      rw[if_pos hk]
      rfl
     ·rename_i hk
      rw[if_neg hk];exact said _ _ h
    ·rename_i hk
     rw[if_neg hk]
     split at h
     ·rename_i hk
      rw[if_pos hk];unfold rebA at h ⊢
      split
      ·rfl
      ·rename_i h1
       rw[if_neg h1]at h
       split
       ·rfl
       ·rename_i h2
        rw[if_neg h2]at h;exact absurd rfl h
     ·rename_i hk
      rw[if_neg hk]
      rfl
theorem began_other (m:Md) (ns:List ByteArray) (q:Cl) (h:q.kind=1→(askA m ns q).rep.err≠0):(askA m ns q).began=m.began:=by
 by_cases hk:q.kind=1
 ·have h:=h hk
  unfold askA at h ⊢;rw[if_pos hk]at h ⊢;unfold instA at h ⊢
  split
  ·rfl
  ·rename_i h1
   rw[if_neg h1]at h
   split
   ·rfl
   ·rename_i h2
    rw[if_neg h2]at h
    split
    ·rfl
    ·rename_i h3
     rw[if_neg h3]at h;exact absurd rfl h
 ·unfold askA
  rw[if_neg hk]
  split
  ·unfold cancA
   split<;>rfl
  ·split
   ·exact uk _ _
   ·split
    ·split
     ·rfl
     ·exact uk _ _
    ·split
     ·unfold rebA
      split
      ·rfl
      ·split<;>rfl
     ·rfl
theorem inst_begins (m:Md) (ns:List ByteArray) (q:Cl) (hk:q.kind=1) (h:(askA m ns q).rep.err=0):m.job.live=false∧(askA m ns q).job.live=true∧(askA m ns q).rep.job=m.began+1∧(askA m ns q).began=m.began+1:=by
 unfold askA at h ⊢;rw[if_pos hk]at h ⊢;unfold instA at h ⊢
 split at h
 ·exact absurd h (by show ¬(251:Int)=0;decide)
 ·rename_i h1
  rw[if_neg h1]
  split at h
  ·exact absurd h (by show ¬(182:Int)=0;decide)
  ·rename_i h2
   rw[if_neg h2]
   split at h
   ·exact absurd h (by show ¬(101:Int)=0;decide)
   ·rename_i h3
    rw[if_neg h3];exact⟨by simpa using h1,rfl,rfl,rfl⟩
structure JobStep (m m':Md) (e:En):Prop where
 inst:e.kind=1→e.call.kind=1→e.rep.err=0→m.job.live=false∧m'.job.live=true∧e.rep.job=m.began+1∧m'.began=m.began+1
 other:¬(e.kind=1∧e.call.kind=1∧e.rep.err=0)→m'.began=m.began
 ends : e.kind = 2 → m.job.live = true ∧ m'.job.live = false
 step:StepT e m.known m'.known
 same:e.kind=1→(e.rep.err≠0∨y3 e.call=false)→m'.known=m.known
 kind:e.kind=1∨e.kind=2
 right:e.kind=1→y3 e.call=true
theorem do_step {m m':Md} {ns:List ByteArray} {e:En} (h:doM m ns e=some m'):JobStep m m' e:=by
 unfold doM at h
 by_cases hk:e.kind=1
 ·rw[if_pos hk]at h
  obtain⟨h1,h2,h3,h4,h5⟩:=called_some h;have hst:=applyT_step (safe_stored m ns e.call e e.store) h4
  have n2:e.kind≠2:=by omega
  by_cases h0:e.store=0
  ·rw[h0,uy]at h3 h4 h5 hst
   simp only at h3 h4 h5 hst;refine⟨fun _ hc he=>?_,fun hno=>?_,fun h=>absurd h n2,by rw[h5];exact hst,fun _ he=>?_,.inl hk,fun _=>h1⟩
   ·rw[←h3]at he ⊢
    obtain⟨g1,g2,g3,g4⟩:=inst_begins m ns e.call hc he;rw[h5];exact⟨g1,g2,g3,g4⟩
   ·rw[h5]
    refine began_other m ns e.call fun hc he=>hno ⟨hk,hc,?_⟩
    rw[←h3];exact he
   ·rcases he with he|he
    ·rw[←h3]at he
     rw[ask_refused m ns e.call he]at h4 h5;rw[h5];exact applyT_nil h4
    ·rw[h1]at he;cases he
  ·have hs:=(storedA_ne h0 h2).1
   rw[hs]at h3
   have he0:e.rep.err=e.store:=by rw[←h3];rfl
   have hm:=called_skip h h0;subst hm;exact⟨fun _ _ he=>absurd (he0.symm.trans he) h0,fun _=>rfl,fun h=>absurd h n2,StepT.refl _ _,fun _ _=>rfl,.inl hk,fun _=>h1⟩
 ·rw[if_neg hk]at h
  by_cases hk2:e.kind=2
  ·rw[if_pos hk2]at h
   unfold endedM at h
   split at h
   ·rename_i hb
    split at h
    ·rename_i hs2
     split at h
     ·unfold landsM at h
      split at h
      ·cases h
      ·split at h
       ·rename_i hl0
        split at h
        ·rename_i ha0
         simp only[Option.map_some,Option.some.injEq]at h;subst h;refine⟨fun h=>absurd h hk,fun _=>rfl,fun _=>⟨hb.2,rfl⟩,?_,fun h=>absurd h hk,.inr hk2,fun h=>absurd h hk⟩;refine applyT_step (fun c hc=>?_) ha0;unfold landT at hl0 hc
         split at hc
         ·rename_i hcc
          rcases List.mem_cons.1 hc with rfl|hc
          ·have h2:e.slot.st=2:=hcc.2.2.2.2.2
           exact fun _ _ _ _=>⟨fun _=>.inr ⟨hk2,hs2⟩,fun h=>absurd (h2.symm.trans h) (by decide)⟩
          ·rcases List.mem_cons.1 hc with rfl|hc
           ·exact za6 _ _ _
           ·cases hc
         ·cases hc
        ·cases h
       ·cases h
     ·cases h
    ·split at h
     ·split at h
      ·cases h
      ·injection h with h
       subst h;exact⟨fun h=>absurd h hk,fun _=>rfl,fun _=>⟨hb.2,rfl⟩,StepT.refl _ _,fun h=>absurd h hk,.inr hk2,fun h=>absurd h hk⟩
     ·cases h
   ·cases h
  ·rw[if_neg hk2]at h
   cases h
end

section
set_option linter.unusedVariables false
set_option linter.unusedSimpArgs false
open Go.RowKit Go.Lib Go.Deep
structure Near (m d:Md):Prop where
 known:d.known=m.known
 tries:d.tries=m.tries
 number:d.job.number=m.job.number
 state:d.job.state=m.job.state
 fault:d.job.fault=m.job.fault
 live:d.job.live=m.job.live
 began:d.began=m.began
 slot:m.job.live=true→d.job.slot=m.job.slot
 floor:m.job.live=true→d.job.floor=m.job.floor
theorem Near.refl (m:Md):Near m m:=⟨rfl,rfl,rfl,rfl,rfl,rfl,rfl,fun _=>rfl,fun _=>rfl⟩
theorem qv:∀(cs:List Cg) (t:Tb),(∀c∈cs,c.kind=1∨c.kind=2∨c.kind=3)→∃u,yl t cs=some u
 | [],t,_=>⟨t,rfl⟩
 | c::cs,t,h=>by
  have hc:=h c (List.mem_cons_self ..)
  have hr:=fun x hx=>h x (List.mem_cons_of_mem _ hx)
  unfold yl
  by_cases h1:c.kind=1
  ·rw[if_pos h1];exact qv cs _ hr
  ·rw[if_neg h1]
   by_cases h2:c.kind=2
   ·rw[if_pos h2];exact qv cs _ hr
   ·rw[if_neg h2,if_pos (by omega)];exact qv cs _ hr
theorem applyT_zero {t:Tb} {cs:List Cg} (hr:zx t=true) (hc:cs.all crT=true) {u:Tb} (h:yl t cs=some u):(zv t cs).2=0:=by
 unfold zv;rw[if_pos ⟨hr,hc⟩,h]
theorem je {t:Tb} {cs:List Cg} (hr:zx t=true) (hc:cs.all crT=true) (h:∀c∈cs,c.kind=1∨c.kind=2∨c.kind=3):(zv t cs).2=0:=by
 obtain⟨u,hu⟩:=qv cs t h;exact applyT_zero hr hc hu
theorem right_bad (s:Slt):rightS (badS s).1=true:=by
 unfold badS
 split
 ·decide +kernel
 ·decide +kernel
theorem right_try (s:Slt):rightS (tryS s).1=true:=by
 unfold tryS
 split
 ·rename_i h
  simp only[Bool.and_eq_true,beq_iff_eq,Bool.not_eq_true',beq_eq_false_iff_ne]at h;obtain⟨h1,h2,h3⟩:=h;unfold rightS at h1 ⊢;rw[if_neg (by omega),if_pos h2]at h1;simp only[Bool.and_eq_true,decide_eq_true_eq]at h1
  show(if s.st=0∨s.st=1∨s.st=4 then _ else if s.st=2 then _ else _)=true
  rw[if_neg (by omega),if_pos h2];simp only[Bool.and_eq_true,decide_eq_true_eq];exact⟨by omega,by omega,h1.2.2⟩
 ·decide +kernel
theorem right_good {s:Slt} (h:(goodS s).2=0):rightS (goodS s).1=true:=by
 unfold goodS at h ⊢
 split
 ·rename_i hc
  simp only[Bool.and_eq_true,fullS,Bool.or_eq_true,beq_iff_eq]at hc;obtain⟨h1,h2⟩:=hc
  have hi:imgS s=true:=by
   unfold rightS at h1;rw[if_neg (by omega)]at h1
   split at h1
   ·simp only[Bool.and_eq_true]at h1;exact h1.2.2
   ·rename_i h3
    rw[if_pos (by omega)]at h1;simp only[Bool.and_eq_true]at h1;exact h1.2
  show rightS ⟨3,0,s.ver,s.sz,s.dig⟩=true
  unfold rightS;rw[if_neg (by show ¬((3:Int)=0∨(3:Int)=1∨(3:Int)=4);decide),if_neg (by show ¬(3:Int)=2;decide),if_pos rfl];simp only[Bool.and_eq_true];exact⟨rfl,hi⟩
 ·rename_i hc
  rw[if_neg hc]at h;exact absurd h (by decide)
theorem za7 {i:Int} (h:ixB i=true):ixB (1-i)=true:=by
 rcases(ul i).1 h with rfl|rfl<;>rfl
theorem zai {i:Int} {s:Slt} (hi:ixB i=true) (hs:rightS s=true):crT (setC i s)=true:=by
 show(ixB i&&rightS s)=true
 rw[hi,hs];rfl
theorem aim_ix {t:Tb} (h:aimT t≠-1):ixB (aimT t)=true:=by
 unfold aimT at h ⊢
 split
 ·rename_i hc
  exact za7 ((ku t).1 hc.1).2.2.1
 ·rename_i hc
  rw[if_neg hc]at h;exact absurd rfl h
theorem apply_wipe {t:Tb} (hr:zx t=true) (h:(wipeT t).2=0):(zv t (wipeT t).1).2=0:=by
 unfold wipeT at h ⊢
 split
 ·exact je hr rfl (fun c hc=>by cases hc)
 ·rename_i ha
  refine je hr ?_ ?_
  ·simp only[List.all_cons,List.all_nil,Bool.and_true]
   exact zai (aim_ix ha) (by decide +kernel)
  ·intro c hc
   rcases List.mem_cons.1 hc with rfl|hc
   ·exact .inl rfl
   ·cases hc
theorem qo {t:Tb} (hr:zx t=true):zv t []=(t,0):=by
 unfold zv;rw[if_pos ⟨hr,rfl⟩]
 rfl
theorem apply_good {t:Tb} {i:Int} (hr:zx t=true) (h:(goodT t i).2=0):(zv t (goodT t i).1).2=0:=by
 unfold goodT at h ⊢
 split
 ·rename_i hc
  rw[if_pos hc]at h
  split
  ·rename_i hg
   have hs:=right_good hg;have hset:=zai (i:=i) hc.2.1 hs
   split
   ·rename_i hf
    refine applyT_zero hr ?_ (u:={ (t.put i (goodS (t.at_ i)).1) with flo:=(goodS (t.at_ i)).1.ver }) ?_
    ·simp only[List.all_cons,List.all_nil,Bool.and_true,Bool.and_eq_true]
     refine⟨hset,?_⟩
     show decide ((goodS (t.at_ i)).1.ver≤281474976710656)=true
     have h3:(goodS (t.at_ i)).1.st=3:=by
      unfold goodS at hg ⊢
      split
      ·rfl
      ·rename_i hx
       rw[if_neg hx]at hg;exact absurd hg (by decide)
     generalize (goodS (t.at_ i)).1=s at hs h3;unfold rightS imgS at hs;rw[if_neg (by omega),if_neg (by omega),if_pos h3]at hs;simp only[Bool.and_eq_true,decide_eq_true_eq]at hs ⊢;exact hs.2.2.1
    ·have e1:yl t [setC i (goodS (t.at_ i)).1,floC (goodS (t.at_ i)).1.ver]=yl (t.put i (goodS (t.at_ i)).1) [floC (goodS (t.at_ i)).1.ver]:=rfl
     rw[e1]
     have e2:yl (t.put i (goodS (t.at_ i)).1) [floC (goodS (t.at_ i)).1.ver]=if (goodS (t.at_ i)).1.ver < (t.put i (goodS (t.at_ i)).1).flo then none else some { (t.put i (goodS (t.at_ i)).1) with flo:=(goodS (t.at_ i)).1.ver }:=rfl
     rw[e2,if_neg]
     have e3:(t.put i (goodS (t.at_ i)).1).flo=t.flo:=by unfold Tb.put;split<;>rfl
     rw[e3];omega
   ·refine je hr ?_ ?_
    ·simp only[List.all_cons,List.all_nil,Bool.and_true];exact hset
    ·intro c hc
     rcases List.mem_cons.1 hc with rfl|hc
     ·exact .inl rfl
     ·cases hc
  ·rename_i hg
   rw[if_neg hg]at h;exact absurd h hg
 ·rename_i hc
  rw[if_neg hc]at h;exact absurd h (by decide)
theorem apply_bad {t:Tb} {i:Int} (hr:zx t=true) (h:(badT t i).2=0):(zv t (badT t i).1).2=0:=by
 unfold badT at h ⊢
 have n:(zv t []).2=0:=by rw[qo hr]
 split
 ·rename_i hc
  have hset:=zai (i:=i) hc.2 (right_bad (t.at_ i))
  split
  ·split
   ·split
    ·refine je hr ?_ ?_
     ·simp only[List.all_cons,List.all_nil,Bool.and_true,Bool.and_eq_true]
      exact⟨hset,za7 hc.2⟩
     ·intro c hc
      rcases List.mem_cons.1 hc with rfl|hc
      ·exact .inl rfl
      ·rcases List.mem_cons.1 hc with rfl|hc
       ·exact .inr (.inl rfl)
       ·cases hc
    ·refine je hr ?_ ?_
     ·simp only[List.all_cons,List.all_nil,Bool.and_true];exact hset
     ·intro c hc
      rcases List.mem_cons.1 hc with rfl|hc
      ·exact .inl rfl
      ·cases hc
   ·exact n
  ·exact n
 ·exact n
theorem apply_land {t:Tb} {i:Int} {s:Slt} (hr:zx t=true):(zv t (landT t i s).1).2=0:=by
 unfold landT
 split
 ·rename_i hc
  refine je hr ?_ ?_
  ·simp only[List.all_cons,List.all_nil,Bool.and_true,Bool.and_eq_true]
   exact⟨zai hc.2.1 hc.2.2.2.2.1,hc.2.1⟩
  ·intro c hc
   rcases List.mem_cons.1 hc with rfl|hc
   ·exact .inl rfl
   ·rcases List.mem_cons.1 hc with rfl|hc
    ·exact .inr (.inl rfl)
    ·cases hc
 ·rw[qo hr]
theorem apply_plan {t:Tb} (hr:zx t=true):(zv t (planT t).2).2=0:=by
 unfold planT
 split
 ·rename_i hc
  have ha:=((ku t).1 hr).2.2.1
  have hp:ixB (pickT t)=true:=by
   have hp:=hc.2;unfold pickT at hp ⊢
   split
   ·exact ha
   ·split
    ·exact za7 ha
    ·rename_i h1 h2
     rw[if_neg h1,if_neg h2]at hp;exact absurd rfl hp
  have hb:=right_bad (t.at_ t.act);have ht:=right_try (t.at_ (pickT t))
  have key:∀c∈planL (pickT t) t.act ((t.at_ t.act).st==2) (badS (t.at_ t.act)).1 ((t.at_ (pickT t)).st==2) (tryS (t.at_ (pickT t))).1,crT c=true∧(c.kind=1∨c.kind=2∨c.kind=3):=by
   intro c hc;unfold planL at hc
   rcases List.mem_append.1 hc with hc|hc
   ·split at hc
    ·cases hc
    ·rcases List.mem_append.1 hc with hc|hc
     ·split at hc
      ·rcases List.mem_cons.1 hc with rfl|hc
       ·exact⟨zai ha hb,.inl rfl⟩
       ·cases hc
      ·cases hc
     ·rcases List.mem_cons.1 hc with rfl|hc
      ·exact⟨hp,.inr (.inl rfl)⟩
      ·cases hc
   ·rcases List.mem_append.1 hc with hc|hc
    ·split at hc
     ·rcases List.mem_cons.1 hc with rfl|hc
      ·exact⟨zai hp ht,.inl rfl⟩
      ·cases hc
     ·cases hc
    ·rcases List.mem_cons.1 hc with rfl|hc
     ·refine⟨?_,.inr (.inr rfl)⟩
      show(pickT t==-1||ixB (pickT t))=true
      rw[hp,Bool.or_true]
     ·cases hc
  exact je hr (List.all_eq_true.2 fun c hc=>(key c hc).1) fun c hc=>(key c hc).2
 ·rw[qo hr]
structure Corr (m:Md) (a:An) (x:Int) (C:Md × Ry × Bool):Prop where
 ok:(storedA m a x).2=C.2.2
 rep:(storedA m a x).2=true→(storedA m a x).1.rep=C.2.1
 app:(storedA m a x).2=true→(zv m.known (storedA m a x).1.l).2=0
 near:(storedA m a x).2=true→Near ⟨(zv m.known (storedA m a x).1.l).1,m.tries,(storedA m a x).1.job,(storedA m a x).1.began⟩ C.1
theorem refA_near {m d:Md} (hr:zx m.known=true) (h:Near m d) (x:Int):Near ⟨(zv m.known (refA m x).l).1,m.tries,(refA m x).job,(refA m x).began⟩ d:=by
 have e:(zv m.known (refA m x).l)=(m.known,0):=qo hr;rw[e];exact h
theorem ua {m d:Md} {a:An} {x:Int} {d1:Md} {r1:Ry} (hr:zx m.known=true) (hk:keptB x=true) (hkeep:a.keeps=false) (hl:a.l=[]) (hrep:a.rep=r1) (hn:Near ⟨m.known,m.tries,a.job,a.began⟩ d1):Corr m a x (d1,r1,x==0):=by
 by_cases hx:x=0
 ·subst hx
  have e:=uy m a;refine⟨by rw[e];rfl,fun _=>by rw[e];exact hrep,fun _=>?_,fun _=>?_⟩
  ·rw[e,hl,qo hr]
  ·rw[e]
   show Near ⟨(zv m.known a.l).1,m.tries,a.job,a.began⟩ d1
   rw[hl,qo hr];exact hn
 ·have e : storedA m a x = (zA, false) := by
   unfold storedA;rw[if_pos (by simp[hk,hkeep,hx])]
  refine⟨by rw[e];simp[hx],fun h=>?_,fun h=>?_,fun h=>?_⟩<;>rw[e]at h<;>cases h
theorem za8 {m d d':Md} {a:An} {x:Int} {r:Ry} {cs:List Cg} (hr:zx m.known=true) (hk:keptB x=true) (hkeep:a.keeps=true) (hl:a.l=cs) (hrep:a.rep=r) (h0:(zv m.known cs).2=0) (hmd:Near m d)
  (hn:Near ⟨(zv m.known cs).1,m.tries,a.job,a.began⟩ { d' with known:=(zv m.known cs).1 }):Corr m a x (keepD d d' cs r x):=by
 have ed:d.known=m.known:=hmd.known
 by_cases hx:x=0
 ·subst hx
  have e:=uy m a
  have ek:keepD d d' cs r 0=({ d' with known:=(zv m.known cs).1 },r,true):=by
   unfold keepD keepM;rw[if_pos rfl,ed]
  rw[ek];refine⟨by rw[e],fun _=>by rw[e];exact hrep,fun _=>?_,fun _=>?_⟩
  ·rw[e,hl];exact h0
  ·rw[e]
   show Near ⟨(zv m.known a.l).1,m.tries,a.job,a.began⟩ _
   rw[hl];exact hn
 ·have e : storedA m a x = (refA m x, true) := by
   unfold storedA;rw[if_neg (by simp[hk,hkeep]),if_pos hx]
  have ek:keepD d d' cs r x=(d,⟨x,0,0,0,0,zTb⟩,true):=by
   unfold keepD keepM;rw[if_neg hx]
  rw[ek];refine⟨by rw[e],fun _=>by rw[e];rfl,fun _=>?_,fun _=>?_⟩
  ·rw[e]
   show(zv m.known []).2=0
   rw[qo hr]
  ·rw[e];exact refA_near hr hmd x
theorem zay {m d:Md} {l:List Cg} {y x:Int} (hr:zx m.known=true) (hk:keptB x=true) (hmd:Near m d) (h0:y=0→(zv m.known l).2=0):Corr m (saidA m l y) x (if y≠0 then failD d y x else keepD d d l zRy x):=by
 by_cases hy:y=0
 ·rw[if_neg (fun h=>h hy)]
  unfold saidA;rw[if_pos hy];exact za8 hr hk rfl rfl rfl (h0 hy) hmd ⟨rfl,hmd.tries,hmd.number,hmd.state,hmd.fault,hmd.live,hmd.began,hmd.slot,hmd.floor⟩
 ·rw[if_pos hy]
  unfold saidA;rw[if_neg hy];exact ua (d:=d) hr hk rfl rfl rfl hmd
theorem call_corr {m d:Md} {ns:List ByteArray} {q:Cl} {x:Int} (hr:zx m.known=true) (hmd:Near m d) (hq:y3 q=true) (hk:keptB x=true):Corr m (askA m (filtN ns) q) x (callD d ns q x):=by
 obtain⟨h1,h2,h3,h4,h5,h6,h7,h8,h9⟩:=id hmd;unfold callD;rw[if_neg (by rw[hq,hk];decide)];unfold askA
 by_cases k1:q.kind=1
 ·rw[if_pos k1,if_pos k1]
  unfold instD instA;rw[h6,hasB_spec,h1]
  by_cases hl:m.job.live=true
  ·rw[if_pos hl,if_pos hl]
   exact ua (d:=d) hr hk rfl rfl rfl hmd
  ·rw[if_neg hl,if_neg hl]
   by_cases hc:Lib.containsS (filtN ns) (foldB q.name)=false
   ·rw[if_pos hc,if_pos hc]
    exact ua (d:=d) hr hk rfl rfl rfl hmd
   ·rw[if_neg hc,if_neg hc]
    by_cases ha:aimT m.known=-1
    ·have e:wipeT m.known=([],101):=by unfold wipeT;rw[if_pos ha]
     rw[if_pos ha,e,if_pos (by decide)];exact ua (d:=d) hr hk rfl rfl rfl hmd
    ·have e:(wipeT m.known).2=0:=by unfold wipeT;rw[if_neg ha]
     rw[if_neg ha,if_neg (fun h=>h e),h7];refine za8 hr hk rfl rfl rfl (apply_wipe hr e) hmd ?_;unfold nextI;rw[h1,h7];exact⟨rfl,h2,rfl,rfl,rfl,rfl,rfl,fun _=>rfl,fun _=>rfl⟩
 rw[if_neg k1,if_neg k1]
 by_cases k2:q.kind=2
 ·rw[if_pos k2,if_pos k2,h6,h3]
  unfold cancA
  by_cases hc:(!m.job.live||(q.job != 0&&q.job != m.job.number))=true
  ·rw[if_pos hc,if_pos hc]
   exact ua (d:=d) hr hk rfl rfl rfl hmd
  ·rw[if_neg hc,if_neg hc]
   exact ua (d:=d) hr hk rfl rfl rfl ⟨h1,h2,h3,rfl,h5,rfl,h7,fun h=>(Bool.noConfusion h),fun h=>(Bool.noConfusion h)⟩
 rw[if_neg k2,if_neg k2]
 by_cases k3:q.kind=3
 ·rw[if_pos k3,if_neg (by omega),if_neg (by omega),if_neg (by omega),h1,h3,h4,h5]
  exact ua (d:=d) hr hk rfl rfl rfl hmd
 rw[if_neg k3]
 by_cases k4:q.kind=4
 ·rw[if_pos k4,if_pos k4,h1]
  exact zay hr hk hmd (apply_good hr)
 rw[if_neg k4,if_neg k4]
 by_cases k5:q.kind=5
 ·rw[if_pos k5,if_pos k5,h6,h1]
  by_cases hl:m.job.live=true
  ·rw[h8 hl]
   by_cases hc:(m.job.live&&q.slot==m.job.slot)=true
   ·rw[if_pos hc,if_pos hc]
    exact ua (d:=d) hr hk rfl rfl rfl hmd
   ·rw[if_neg hc,if_neg hc]
    exact zay hr hk hmd (apply_bad hr)
  ·have hl:m.job.live=false:=by simpa using hl
   rw[hl,Bool.false_and,Bool.false_and,if_neg (by decide),if_neg (by decide)];exact zay hr hk hmd (apply_bad hr)
 rw[if_neg k5,if_neg k5];have k6:=right_six hq k1 k2 k3 k4 k5;rw[if_pos k6,h6];unfold rebA
 by_cases hl:m.job.live=true
 ·rw[if_pos hl,if_pos hl]
  exact ua (d:=d) hr hk rfl rfl rfl hmd
 ·rw[if_neg hl,if_neg hl,h1]
  have p:=u5 m.known
  by_cases hp:(planT m.known).1 < 0
  ·rw[if_pos hp,if_pos (by omega)]
   exact ua (d:=d) hr hk rfl rfl rfl hmd
  ·rw[if_neg hp,if_neg (by omega)]
   refine za8 hr hk rfl rfl rfl (apply_plan hr) hmd ?_
   have hl:m.job.live=false:=by simpa using hl
   unfold rebD;exact⟨rfl,h2,rfl,rfl,rfl,by show d.job.live=false;rw[h6,hl],h7,fun h=>(Bool.noConfusion h),fun h=>(Bool.noConfusion h)⟩
theorem callD_refused {d:Md} {ns:List ByteArray} {q:Cl} {x:Int} (h:y3 q=false):callD d ns q x=(d,zRy,false):=by
 unfold callD;rw[if_pos (by rw[h];rfl)]
theorem callD_kept {d:Md} {ns:List ByteArray} {q:Cl} {x:Int} (h:keptB x=false):callD d ns q x=(d,zRy,false):=by
 unfold callD;rw[if_pos (by rw[h,Bool.and_false])]
theorem storedA_kept {m:Md} {a:An} {x:Int} (h:keptB x=false):storedA m a x=(zA,false):=by
 unfold storedA;rw[if_pos (by rw[h];rfl)]
theorem bareE_iff (e:En):eqEn e (bareE e)=true↔e.state=0∧e.fault=0∧eqS e.slot zS=true:=by
 rw[za5,za4];obtain⟨c1,c2,c3,c4,c5,c6,c7,c8⟩:=e
 simp[bareE]
theorem bareF_iff (e:En):eqEn e (bareF e)=true↔e.serial=0∧eqC e.call zC=true∧eqRy e.rep zRy=true:=by
 rw[za5,eqC_iff,zao];obtain⟨c1,c2,c3,c4,c5,c6,c7,c8⟩:=e
 simp[bareF]
theorem end_near {m d:Md} {e:En} (hr:zx m.known=true) (hmd:Near m d):(if (endD d e).2=true then ((endD d e).1,true) else (d,false)).2=(endedM m e).isSome∧Near ((endedM m e).getD m) (if (endD d e).2=true then ((endD d e).1,true) else (d,false)).1:=by
 by_cases ho:openE d e=true
 ·have eD:endD d e=(d,false):=by unfold endD;rw[if_pos ho]
  have eM:endedM m e=none:=by
   unfold endedM;refine if_neg ?_;rw[bareF_iff];rintro⟨⟨g1,g2,g3⟩,g4⟩;unfold openE at ho;rw[hmd.live,g1,g2,g3,g4]at ho;exact absurd ho (by decide)
  rw[eD,eM];exact⟨rfl,hmd⟩
 ·have hyes : eqEn e (bareF e) = true ∧ m.job.live = true := by
   rw[bareF_iff];unfold openE at ho;rw[hmd.live]at ho;simp only[Bool.or_eq_true,Bool.not_eq_true',not_or,bne_iff_ne,ne_eq,Decidable.not_not,Bool.not_eq_false]at ho;exact⟨⟨ho.1,ho.2.1,ho.2.2.1⟩,ho.2.2.2⟩
  have hl:=hyes.2
  by_cases k3:e.state=3
  ·have n2:¬e.state=2:=by omega
   have eD:endD d e=(yr d e,eqS e.slot zS&&((e.fault != 0)&&((e.store==0)||(keptB e.store&&(e.store==e.fault))))):=by unfold endD;rw[if_neg ho,if_pos k3]
   have eM:endedM m e=if eqS e.slot zS=false∨e.fault=0∨keptB e.store=false∨(e.store≠0∧e.store≠e.fault) then none else some (yr m e):=by unfold endedM;rw[if_pos hyes,if_neg n2,if_pos k3]
   rw[eD,eM]
   cases hb:(eqS e.slot zS&&((e.fault != 0)&&((e.store==0)||(keptB e.store&&(e.store==e.fault))))) with
   | true=>
    simp only[Bool.and_eq_true,Bool.or_eq_true,beq_iff_eq,bne_iff_ne,ne_eq]at hb;obtain⟨b1,b2,b3⟩:=hb
    have hc:¬(eqS e.slot zS=false∨e.fault=0∨keptB e.store=false∨(e.store≠0∧e.store≠e.fault)):=by
     rintro(h|h|h|h)
     ·rw[b1]at h;cases h
     ·exact b2 h
     ·rcases b3 with b3|b3
      ·rw[b3]at h;exact absurd h (by decide)
      ·rw[b3.1]at h;cases h
     ·rcases b3 with b3|b3
      ·exact h.1 b3
      ·exact h.2 b3.2
    rw[if_neg hc];exact⟨rfl,⟨hmd.known,hmd.tries,hmd.number,rfl,rfl,rfl,hmd.began,fun h=>(Bool.noConfusion h),fun h=>(Bool.noConfusion h)⟩⟩
   | false=>
    have hc:eqS e.slot zS=false∨e.fault=0∨keptB e.store=false∨(e.store≠0∧e.store≠e.fault):=by
     have hb:¬(eqS e.slot zS&&((e.fault != 0)&&((e.store==0)||(keptB e.store&&(e.store==e.fault)))))=true:=by rw[hb];decide
     simp only[Bool.and_eq_true,Bool.or_eq_true,beq_iff_eq,bne_iff_ne,ne_eq]at hb
     by_cases b1:eqS e.slot zS=true
     ·by_cases b2:e.fault=0
      ·exact .inr (.inl b2)
      ·cases b3:keptB e.store with
       | false=>exact .inr (.inr (.inl rfl))
       | true=>exact .inr (.inr (.inr ⟨fun h=>hb ⟨b1,b2,.inl h⟩,fun h=>hb ⟨b1,b2,.inr ⟨b3,h⟩⟩⟩))
     ·exact .inl (by simpa using b1)
    rw[if_pos hc];exact⟨rfl,hmd⟩
  ·have eL : landE d e = (e.state != 2 || (e.fault != 0 || (e.store != 0 || ((landT m.known m.job.slot e.slot).2 != 0 || (e.slot.tr != m.tries || decide (e.slot.ver < m.job.floor)))))) := by
    unfold landE;rw[hmd.known,hmd.slot hl,hmd.tries,hmd.floor hl]
   have eD:endD d e=if landE d e=true then (d,false) else ({ yr d e with known:=(zv m.known (landT m.known m.job.slot e.slot).1).1 },true):=by
    unfold endD;rw[if_neg ho,if_neg k3,hmd.known,hmd.slot hl]
   rw[eD]
   have no:landE d e=true→endedM m e=none→(if (if landE d e=true then (d,false) else ({ yr d e with known:=(zv m.known (landT m.known m.job.slot e.slot).1).1 },true)).2=true then ((if landE d e=true then (d,false) else ({ yr d e with known:=(zv m.known (landT m.known m.job.slot e.slot).1).1 },true)).1,true) else (d,false)).2=(endedM m e).isSome∧Near ((endedM m e).getD m) (if (if landE d e=true then (d,false) else ({ yr d e with known:=(zv m.known (landT m.known m.job.slot e.slot).1).1 },true)).2=true then ((if landE d e=true then (d,false) else ({ yr d e with known:=(zv m.known (landT m.known m.job.slot e.slot).1).1 },true)).1,true) else (d,false)).1:=fun h1 h2=>by
    rw[if_pos h1,h2];exact⟨rfl,hmd⟩
   by_cases k22:e.state=2
   ·have eM:endedM m e=if e.fault=0∧e.store=0 then (landsM m e.slot).map (fun x=>yr x e) else none:=by unfold endedM;rw[if_pos hyes,if_pos k22]
    by_cases hf:e.fault=0∧e.store=0
    ·rw[if_pos hf]at eM
     by_cases hv:(e.slot.tr != m.tries)=true∨decide (e.slot.ver < m.job.floor)=true
     ·have el:landsM m e.slot=none:=by unfold landsM;rw[if_pos hv]
      rw[el]at eM;exact no (by rw[eL];rcases hv with hv|hv<;>simp[hv]) eM
     ·by_cases h0:(landT m.known m.job.slot e.slot).2=0
      ·have el:landsM m e.slot=some { m with known:=(zv m.known (landT m.known m.job.slot e.slot).1).1 }:=by unfold landsM;rw[if_neg hv,if_pos h0,if_pos (apply_land hr)]
       rw[el]at eM
       have hE:landE d e=false:=by
        rw[not_or,Bool.not_eq_true,Bool.not_eq_true]at hv;rw[eL,k22,hf.1,hf.2,h0,hv.1,hv.2]
        rfl
       rw[hE,eM];exact⟨rfl,⟨rfl,hmd.tries,hmd.number,rfl,rfl,rfl,hmd.began,fun h=>(Bool.noConfusion h),fun h=>(Bool.noConfusion h)⟩⟩
      ·have el:landsM m e.slot=none:=by unfold landsM;rw[if_neg hv,if_neg h0]
       rw[el]at eM;exact no (by rw[eL];simp[h0]) eM
    ·rw[if_neg hf]at eM
     refine no ?_ eM;rw[eL]
     by_cases h1:e.fault=0
     ·have h2:e.store≠0:=fun h=>hf ⟨h1,h⟩
      simp[h2]
     ·simp[h1]
   ·exact no (by rw[eL];simp[k22]) (by unfold endedM;rw[if_pos hyes,if_neg k22,if_neg k3])
theorem do_near {m d:Md} {ns:List ByteArray} {e:En} (hr:zx m.known=true) (hmd:Near m d):(doD d ns e).2=(doM m (filtN ns) e).isSome∧Near ((doM m (filtN ns) e).getD m) (doD d ns e).1:=by
 by_cases k2:e.kind=2
 ·have n1:¬e.kind=1:=by omega
  have eD:doD d ns e=if (endD d e).2=true then ((endD d e).1,true) else (d,false):=by unfold doD;rw[if_pos k2]
  have eM:doM m (filtN ns) e=endedM m e:=by unfold doM;rw[if_neg n1,if_pos k2]
  rw[eD,eM];exact end_near hr hmd
 by_cases k1:e.kind=1
 ·have eM:doM m (filtN ns) e=calledM m (filtN ns) e:=by unfold doM;rw[if_pos k1]
  rw[eM]
  by_cases hb:eqEn e (bareE e)=true
  ·have hb':=(bareE_iff e).1 hb
   have hx:¬(e.kind != 1||(e.state != 0||(e.fault != 0||!eqS e.slot zS)))=true:=by rw[k1,hb'.1,hb'.2.1,hb'.2.2];decide
   have eD:doD d ns e=if (!(callD d ns e.call e.store).2.2||!eqRy (callD d ns e.call e.store).2.1 e.rep)=true then (d,false) else ((callD d ns e.call e.store).1,true):=by unfold doD;rw[if_neg k2,if_neg hx]
   rw[eD]
   by_cases hq:y3 e.call=true
   ·have eC:calledM m (filtN ns) e=if (storedA m (askA m (filtN ns) e.call) e.store).2=true∧eqRy (storedA m (askA m (filtN ns) e.call) e.store).1.rep e.rep=true then (if (zv m.known (storedA m (askA m (filtN ns) e.call) e.store).1.l).2=0 then some ⟨(zv m.known (storedA m (askA m (filtN ns) e.call) e.store).1.l).1,m.tries,(storedA m (askA m (filtN ns) e.call) e.store).1.job,(storedA m (askA m (filtN ns) e.call) e.store).1.began⟩ else none) else none:=by unfold calledM;rw[if_pos ⟨hb,hq⟩]
    rw[eC]
    by_cases hk:keptB e.store=true
    ·have hc:=call_corr (ns:=ns) hr hmd hq hk
     by_cases ho:(callD d ns e.call e.store).2.2=true
     ·have hs:=hc.ok.trans ho
      have hrep:=hc.rep hs
      by_cases he:eqRy (callD d ns e.call e.store).2.1 e.rep=true
      ·have c1:¬(!(callD d ns e.call e.store).2.2||!eqRy (callD d ns e.call e.store).2.1 e.rep)=true:=by rw[ho,he];decide
       rw[if_neg c1,if_pos ⟨hs,by rw[hrep];exact he⟩,if_pos (hc.app hs)];exact⟨rfl,hc.near hs⟩
      ·have c1:(!(callD d ns e.call e.store).2.2||!eqRy (callD d ns e.call e.store).2.1 e.rep)=true:=by simp[he]
       rw[if_pos c1,if_neg (fun h=>he (by rw[←hrep];exact h.2))];exact⟨rfl,hmd⟩
     ·have c1:(!(callD d ns e.call e.store).2.2||!eqRy (callD d ns e.call e.store).2.1 e.rep)=true:=by simp[ho]
      rw[if_pos c1,if_neg (fun h=>ho (by rw[←hc.ok];exact h.1))];exact⟨rfl,hmd⟩
    ·have hk:keptB e.store=false:=by simpa using hk
     rw[callD_kept hk,storedA_kept hk]
     have n1:¬((zA,false).2=true∧eqRy (zA,false).1.rep e.rep=true):=fun h=>(Bool.noConfusion h.1)
     rw[if_neg n1];exact⟨rfl,hmd⟩
   ·have hq':y3 e.call=false:=by simpa using hq
    have eC:calledM m (filtN ns) e=none:=by unfold calledM;rw[if_neg (fun h=>hq h.2)]
    rw[callD_refused hq',eC];exact⟨rfl,hmd⟩
  ·have eC:calledM m (filtN ns) e=none:=by unfold calledM;rw[if_neg (fun h=>hb h.1)]
   have hx:(e.kind != 1||(e.state != 0||(e.fault != 0||!eqS e.slot zS)))=true:=by
    rw[bareE_iff]at hb
    by_cases g1:e.state=0
    ·by_cases g2:e.fault=0
     ·have g3 : eqS e.slot zS = false := by
       cases hh:eqS e.slot zS with
       | false=>rfl
       | true=>exact absurd ⟨g1,g2,hh⟩ hb
      simp[g3]
     ·simp[g2]
    ·simp[g1]
   have eD:doD d ns e=(d,false):=by unfold doD;rw[if_neg k2,if_pos hx]
   rw[eC,eD];exact⟨rfl,hmd⟩
 ·have eM:doM m (filtN ns) e=none:=by unfold doM;rw[if_neg k1,if_neg k2]
  have hx:(e.kind != 1||(e.state != 0||(e.fault != 0||!eqS e.slot zS)))=true:=by simp[k1]
  have eD:doD d ns e=(d,false):=by unfold doD;rw[if_neg k2,if_pos hx]
  rw[eM,eD];exact⟨rfl,hmd⟩
end
end Go.Proofs.YtnjnooeldkideaaGreatDoor
