/- How the arguments of a law read: down to integers, bools, strings, and slices of what has been read. -/
import Derived.Test.YtnjnooeldkideaaGreatDoorBase
import Derived.ProofKit
import Derived.OpenShut
import Derived.ShutString
import Derived.Deep.Slices
import Derived.Deep.Fields
namespace Go.Proofs.YtnjnooeldkideaaGreatDoor
set_option linter.unusedVariables false
set_option linter.unusedSimpArgs false
open Go.ChangeShapes Go.WideShapes Go.RowKit Go.Deep
def ur (I:Nat→Option Obj) (p:Addr):Option Value:=
 match I p.block with
 | some (.cells c _ _)=>if p.spot.isSome then none else c[p.off]?
 | _=>none
theorem roCell_mono {I J:Nat→Option Obj} (h:Le I J) {p:Addr} {v:Value} (hc:ur I p=some v):ur J p=some v:=by
 unfold ur at *
 cases hI:I p.block with
 | none=>rw[hI]at hc;cases hc
 | some o=>rw[hI]at hc;rw[h _ _ hI];exact hc
theorem St.ro {W w:World} {I:Nat→Option Obj} {L:List (Nat × Obj)} (h:St W w I L) {p:Addr} {v:Value} (hc:ur I p=some v):w.cell? p=some v:=by
 unfold ur at hc
 cases hI:I p.block with
 | none=>rw[hI]at hc;cases hc
 | some o=>
  rw[hI]at hc;unfold World.cell?;rw[h.imm _ _ hI];exact hc
section
variable {H:Type} {enc:TypeId × Value→H} {P:Program} {W:World} {t e:TypeId} {cs:List Value}
def Cel (enc:TypeId × Value→H) (P:Program) (W:World) (t:TypeId) (cs:List Value):Prop:=∃fuel x,DataW.trod enc P W 0 (fun _=>true) true fuel t cs=some x
theorem Cel.of_trod {v:Value} {d:DataW H} {p:List MemPlace} (h:DataW.Trod enc P W 0 (fun _=>true) true t v d p):Cel enc P W t v.cells.toList:=
 let ⟨fuel,hf⟩:=h;⟨fuel,_,hf⟩
theorem Cel.int {k:IntKind} (ht:P.underlying t=some (.int k)) (h:Cel enc P W t cs):∃n,cs=[.int k n]∧(Lit.int k n).wf=true:=by
 obtain⟨fuel,x,hf⟩:=h;obtain⟨n,h1,_,h2⟩:=DataW.trod_int ht hf;exact⟨n,h1,h2⟩
theorem Cel.bool (ht:P.underlying t=some .bool) (h:Cel enc P W t cs):∃b,cs=[.bool b]:=by
 obtain⟨fuel,x,hf⟩:=h;obtain⟨n,h1,_⟩:=DataW.trod_bool ht hf;exact⟨n,h1⟩
theorem Cel.string (ht:P.underlying t=some .string) (h:Cel enc P W t cs):∃s:ByteArray,cs=[.string s]∧s.size≤maxLen:=by
 obtain⟨fuel,x,hf⟩:=h;obtain⟨n,h1,_,h2⟩:=DataW.trod_string ht hf;exact⟨n,h1,h2⟩
theorem Cel.struct_ {fs:Array Field} (ht:P.underlying t=some (.struct fs)) (h:Cel enc P W t cs) :
  cs.length=P.cellsOf t∧∀(i:Nat) (f:Field),fs[i]?=some f→Cel enc P W f.type ((cs.drop f.offset).take (P.cellsOf f.type)):=by
 obtain⟨fuel,x,hf⟩:=h;obtain⟨xs,n,_,_,h1,h2,h3⟩:=DataW.trod_struct ht hf;refine⟨h1,fun i f hi=>⟨n,xs[i]'(by rw[h2];exact(Array.getElem?_eq_some_iff.1 hi).1),?_⟩⟩;rw[h3 i f hi];exact List.getElem?_eq_getElem _
theorem Cel.array_ {n:Nat} (ht:P.underlying t=some (.array n e)) (h:Cel enc P W t cs) :
  cs.length=P.cellsOf t∧∀i,i < n→Cel enc P W e ((cs.drop (i*P.cellsOf e)).take (P.cellsOf e)):=by
 obtain⟨fuel,x,hf⟩:=h;obtain⟨xs,m,_,_,h1,h2,h3⟩:=DataW.trod_array ht hf;refine⟨h1,fun i hi=>⟨m,xs[i]'(by omega),?_⟩⟩;rw[h3 i hi];exact List.getElem?_eq_getElem _
structure Slc {α:Type} (I:Nat→Option Obj) (size:Nat) (Q:List Value→α→Prop) (A:Option Addr) (n c:Nat) (xs:List α):Prop where
 len:xs.length=n
 cap:n≤c
 cap':c≤maxLen
 at_:∀i x,xs[i]?=some x→∃b off cs,A=some ⟨b,off,none⟩∧cs.length=size∧(∀j,j < size→ur I ⟨b,off+i*size+j,none⟩=cs[j]?)∧Q cs x
theorem Slc.mono {α:Type} {I J:Nat→Option Obj} {size:Nat} {Q Q':List Value→α→Prop} {A:Option Addr} {n c:Nat} {xs:List α} (h:Slc I size Q A n c xs) (hle:Le I J) (hq:∀cs x,Q cs x→Q' cs x):Slc J size Q' A n c xs:=
 ⟨h.len,h.cap,h.cap',fun i x hx=>by
  obtain⟨b,off,cs,h1,h2,h3,h4⟩:=h.at_ i x hx;refine⟨b,off,cs,h1,h2,fun j hj=>?_,hq _ _ h4⟩;have:=h3 j hj;rw[List.getElem?_eq_getElem (by omega)]at this ⊢
  exact roCell_mono hle this⟩
theorem Cel.slice {α:Type} [Inhabited α] {Q:List Value→α→Prop} {size:Nat} (ht:P.underlying t=some (.slice e)) (hc:P.cellsOf e=size) (hs:0 < size)
  (hq:∀cs',Cel enc P W e cs'→∃x,Q cs' x) (h:Cel enc P W t cs):∃A n c xs,cs=[.slice A n c]∧Slc (fun b=>W.heap[b]?) size Q A n c xs:=by
 obtain⟨fuel,x,hf⟩:=h
 rcases open_slice ht hf with⟨rfl,_⟩|⟨a,len,cap,m,n,D,Pl,rfl,_,hl,hm,hmm,_,hx⟩
 ·exact⟨none,0,0,[],rfl,rfl,by omega,by omega,by simp⟩
 ·have hm':m=cap:=by simpa using hmm
  have key:∀i,i < len→∃y:α,∃b off cs,some a=some (⟨b,off,none⟩:Addr)∧cs.length=size∧(∀j,j < size→W.cell? ⟨b,off+i*size+j,none⟩=cs[j]?)∧Q cs y:=by
   intro i hi;obtain⟨cs',h1,h2⟩:=hx i (by omega);obtain⟨y,hy⟩:=hq cs' ⟨n,_,h2⟩;obtain⟨_,h3,h4⟩:=World.cells?_some h1;rw[hc]at h3 h4;obtain⟨b,off,spot⟩:=a;have h5:=h4 0 hs;rw[List.getElem?_eq_getElem (by omega)]at h5
   have hsp:spot=none:=by
    have:=World.cell?_spot h5
    by_cases h0:i*size=0
    ·simpa[Addr.add,h0] using this
    ·rcases Nat.eq_zero_or_pos (i*size) with h|h
     ·omega
     ·by_cases hi0:i=0
      ·subst hi0;simp at h
      ·have hb:=hx 0 (by omega)
       obtain⟨cs0,g1,_⟩:=hb;obtain⟨_,g3,g4⟩:=World.cells?_some g1;rw[hc]at g3 g4;have g5:=g4 0 hs;rw[List.getElem?_eq_getElem (by omega)]at g5;have:=World.cell?_spot g5
       simpa[Addr.add] using this
   subst hsp;refine⟨y,b,off,cs',rfl,h3,fun j hj=>?_,hy⟩;rw[←h4 j hj]
   congr 1
   rw[add_add];unfold Addr.add
   split
   ·rename_i h0;congr 1;omega
   ·simp only[Nat.add_assoc]
  obtain⟨f,hf'⟩:=choose_lt key;refine⟨some a,len,cap,(List.range len).map f,rfl,by simp,hl,hm,fun i y hy=>?_⟩
  have hi:i < len:=by
   have:=(List.getElem?_eq_some_iff.1 hy).1
   simpa using this
  have:y=f i:=by
   rw[List.getElem?_map,List.getElem?_range hi]at hy
   simpa using hy.symm
  subst this;exact hf' i hi
structure Arg (enc:TypeId × Value→H) (P:Program) (W:World) (t:TypeId) (v:Value):Prop where
 ok:∃base,Value.okWide P W .any base t v
 reads:Cel enc P W t v.cells.toList
theorem Arg.int {k:IntKind} {v:Value} (ht:P.underlying t=some (.int k)) (h:Arg enc P W t v):∃n,v=.int k n∧(Lit.int k n).wf=true:=by
 obtain⟨⟨base,hok⟩,hr⟩:=h;obtain⟨n,rfl⟩:=okWide_int ht hok;obtain⟨m,hm,hw⟩:=hr.int ht
 simp[Value.cells]at hm
 subst hm;exact⟨n,rfl,hw⟩
theorem Arg.bool {v:Value} (ht:P.underlying t=some .bool) (h:Arg enc P W t v):∃b,v=.bool b:=by
 obtain⟨⟨base,hok⟩,_⟩:=h;exact okWide_bool ht hok
theorem Arg.string {v:Value} (ht:P.underlying t=some .string) (h:Arg enc P W t v):∃s:ByteArray,v=.string s∧s.size≤maxLen:=by
 obtain⟨⟨base,hok⟩,hr⟩:=h;obtain⟨n,rfl⟩:=okWide_string ht hok;obtain⟨m,hm,hw⟩:=hr.string ht
 simp[Value.cells]at hm
 subst hm;exact⟨n,rfl,hw⟩
theorem Arg.slice {α:Type} [Inhabited α] {Q:List Value→α→Prop} {size:Nat} {v:Value} (ht:P.underlying t=some (.slice e)) (hc:P.cellsOf e=size) (hs:0 < size)
  (hq:∀cs',Cel enc P W e cs'→∃x,Q cs' x) (h:Arg enc P W t v):∃A n c xs,v=.slice A n c∧Slc (fun b=>W.heap[b]?) size Q A n c xs:=by
 obtain⟨⟨base,hok⟩,hr⟩:=h;obtain⟨A,n,c,rfl⟩:=okWide_slice ht hok;obtain⟨A',n',c',xs,h1,h2⟩:=hr.slice ht hc hs hq
 simp[Value.cells]at h1
 obtain⟨rfl,rfl,rfl⟩:=h1;exact⟨_,_,_,xs,rfl,h2⟩
theorem Arg.struct_ {fs:Array Field} {v:Value} (ht:P.underlying t=some (.struct fs)) (h:Arg enc P W t v) :
  ∃cs:List Value,v=.agg cs.toArray∧cs.length=P.cellsOf t∧∀(i:Nat) (f:Field),fs[i]?=some f→Cel enc P W f.type ((cs.drop f.offset).take (P.cellsOf f.type)):=by
 obtain⟨⟨base,hok⟩,hr⟩:=h;obtain⟨cs,rfl,hsz⟩:=okWide_struct ht hok;obtain⟨h1,h2⟩:=hr.struct_ ht;exact⟨cs.toList,by simp,by simpa using hsz,h2⟩
theorem Arg.array_ {n:Nat} {v:Value} (ht:P.underlying t=some (.array n e)) (h:Arg enc P W t v) :
  ∃cs:List Value,v=.agg cs.toArray∧cs.length=P.cellsOf t∧∀i,i < n→Cel enc P W e ((cs.drop (i*P.cellsOf e)).take (P.cellsOf e)):=by
 obtain⟨⟨base,hok⟩,hr⟩:=h
 have hok2:∃cs,v=.agg cs∧cs.size=P.cellsOf t:=by
  simp only[Value.okWide,ht]at hok;obtain⟨cs,h1,h2,_⟩:=hok;exact⟨cs,h1,h2⟩
 obtain⟨cs,rfl,hsz⟩:=hok2;obtain⟨h1,h2⟩:=hr.array_ ht;exact⟨cs.toList,by simp,by simpa using hsz,h2⟩
end
theorem jc {n:Int} (h:(Lit.int .i64 n).wf=true):-9223372036854775808≤n∧n≤9223372036854775807:=by
 simp[Lit.wf,IntKind.min,IntKind.max,IntKind.signed,IntKind.bits]at h
 exact h
theorem wf_u8 {n:Int} (h:(Lit.int .u8 n).wf=true):0≤n∧n≤255:=by
 simp[Lit.wf,IntKind.min,IntKind.max,IntKind.signed,IntKind.bits]at h
 exact h
section
variable {H:Type} {enc:TypeId × Value→H} {P:Program}
theorem Below.trodAll (hl:laidOutB P=true) {W W':World} (hb:Below W.heap.size W W'):∀(ts:List TypeId) (vs:List Value) (ds:List (DataW H)) (ps:List MemPlace),
  (∀t∈ts,P.readableRec t=true∧t < P.types.size)→DataW.TrodAll enc P W 0 (fun _=>true) true ts vs ds ps→(∀x∈ps,x.block < W.heap.size)→
  DataW.TrodAll enc P W' 0 (fun b=>decide (b < W.heap.size)) true ts vs ds ps
 | [],vs,ds,ps,_,h,_=>by
  obtain⟨rfl,rfl,rfl⟩:=trodAll_nil h;exact trodAll_mk0
 | t::ts,vs,ds,ps,ht,h,hlt=>by
  obtain⟨v,vs',d,ds',p,q,rfl,rfl,rfl,h0,h1⟩:=trodAll_cons h
  exact trodAll_cons_mk (Below.trod hl (ht t (by simp)).1 (ht t (by simp)).2 h0 hb fun x hx=>hlt x (by simp[hx]))
   (Below.trodAll hl hb ts vs' ds' q (fun t' h'=>ht t' (by simp[h'])) h1 fun x hx=>hlt x (by simp[hx]))
end
end Go.Proofs.YtnjnooeldkideaaGreatDoor
