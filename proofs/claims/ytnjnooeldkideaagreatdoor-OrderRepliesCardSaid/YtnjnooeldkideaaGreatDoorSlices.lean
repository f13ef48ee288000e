/- Slices of the proof's own, and what append makes of them. -/
import Derived.Test.YtnjnooeldkideaaGreatDoorArgs
import Derived.Maps.AppendAt
import Derived.Laws.CopyOwn
import Derived.Deep.MidRow
namespace Go.Proofs.YtnjnooeldkideaaGreatDoor
set_option linter.unusedVariables false
set_option linter.unusedSimpArgs false
open Go.RowKit
def Row (E:TypeId) (size:Nat) (v:Value) (n:Nat) (xs:List Value) (L:List (Nat × Obj)):Prop:=
 xs.length=n*size∧
 ((v=.slice none 0 0∧n=0∧L=[])∨
  ∃g off cap cur,v=.slice (some ⟨g,off,none⟩) n cap∧L=[(g,.cells cur E (0,0))]∧n≤cap∧cap≤maxLen∧off+cap*size≤cur.size∧(cur.toList.drop off).take (n*size)=xs)
def Src (w:World) (size:Nat) (A:Option Addr) (m:Nat) (news:List Value):Prop:=
 news.length=m*size∧∀j u,news[j]?=some u→∃ad,A=some ad∧w.cell? (ad.add j)=some u
theorem Row.nil (E:TypeId) (size:Nat):Row E size (.slice none 0 0) 0 [] []:=⟨by simp,.inl ⟨rfl,rfl,rfl⟩⟩
theorem Row.empty (E:TypeId) (size g:Nat):Row E size (.slice (some ⟨g,0,none⟩) 0 0) 0 [] [(g,.cells #[] E (0,0))]:=
 ⟨by simp,.inr ⟨g,0,0,#[],rfl,rfl,by omega,by unfold maxLen;omega,by simp,by simp⟩⟩
theorem Row.whole (E:TypeId) (size g n:Nat) (cs:Array Value) (h:cs.size=n*size) (hn:n≤maxLen):Row E size (.slice (some ⟨g,0,none⟩) n n) n cs.toList [(g,.cells cs E (0,0))]:=
 ⟨by simpa using h,.inr ⟨g,0,n,cs,rfl,rfl,by omega,hn,by omega,by rw[List.drop_zero];exact List.take_of_length_le (by simp[h])⟩⟩
theorem Row.cells {E:TypeId} {size:Nat} {v:Value} {n:Nat} {xs:List Value} {L:List (Nat × Obj)} (h:Row E size v n xs L) {j:Nat} {u:Value} (hj:xs[j]?=some u) :
  ∃g off cap cur,v=.slice (some ⟨g,off,none⟩) n cap∧L=[(g,.cells cur E (0,0))]∧cur[off+j]?=some u:=by
 obtain⟨hl,⟨_,rfl,_⟩|⟨g,off,cap,cur,rfl,rfl,_,_,hs,hx⟩⟩:=h
 ·have:=(List.getElem?_eq_some_iff.1 hj).1
  omega
 ·refine⟨g,off,cap,cur,rfl,rfl,?_⟩
  rw[←hx]at hj;rw[List.getElem?_take]at hj
  split at hj
  ·rw[List.getElem?_drop]at hj
   simpa using hj
  ·cases hj
theorem Row.shape {E:TypeId} {size:Nat} {v:Value} {n:Nat} {xs:List Value} {L:List (Nat × Obj)} (h:Row E size v n xs L):∃A c,v=.slice A n c:=by
 obtain⟨hl,⟨rfl,rfl,_⟩|⟨g,off,cap,cur,rfl,_⟩⟩:=h
 ·exact⟨none,0,rfl⟩
 ·exact⟨_,_,rfl⟩
theorem Row.src {E:TypeId} {size n c:Nat} {A:Option Addr} {xs:List Value} {L:List (Nat × Obj)} {w:World} (h:Row E size (.slice A n c) n xs L) (hown:∀p∈L,w.heap[p.1]?=some p.2):Src w size A n xs:=by
 refine⟨h.1,fun j u hj=>?_⟩;obtain⟨g,off,cap,cur,hv,rfl,hc⟩:=h.cells hj
 injection hv with h1 h2 h3
 subst h1;refine⟨_,rfl,?_⟩;rw[show(⟨g,off,none⟩:Addr).add j=⟨g,off+j,none⟩ by unfold Addr.add;split<;>simp_all];rw[cell_of_row w g (off+j) cur E (0,0) (hown (g,.cells cur E (0,0)) (by simp))];exact hc
theorem Src.one (w:World) (x:Value) (t:TypeId):Src (w.alloc (.cells #[x] t)) 1 (some ⟨w.heap.size,0,none⟩) 1 [x]:=
 ⟨rfl,fun j u hj=>⟨_,rfl,cell_one_new w x t j u hj⟩⟩
theorem grownCap_le {w:World} {need old:Nat} {e:TypeId} (h:need≤maxLen):grownCap w need old e≤maxLen:=grownCap_le_maxLen w need old e h
theorem St.setRow {W w:World} {I:Nat→Option Obj} {F:List (Nat × Obj)} {g:Nat} {cs:Array Value} {t:TypeId} (h:St W w I ((g,.cells cs t (0,0))::F)) (cs':Array Value):St W (w.setRow g cs') I ((g,.cells cs' t (0,0))::F):=by
 have hn:=h.nodup;simp only[List.map_cons,List.nodup_cons]at hn
 have hne:∀p∈F,p.1≠g:=fun p hp e=>hn.1 (e ▸ List.mem_map_of_mem hp)
 refine⟨h.os,h.tape,h.output,?_,by simpa using h.nodup,?_,?_⟩
 ·intro p hp
  rcases List.mem_cons.1 hp with rfl|hp
  ·exact setRow_heap w g cs cs' t _ (h.own (g,.cells cs t (0,0)) (by simp))
  ·rw[setRow_other w g p.1 _ (hne p hp)]
   exact h.own p (by simp[hp])
 ·intro b o hb
  have:b≠g:=by
   rintro rfl;have:=h.apart (b,.cells cs t (0,0)) (by simp);simp only at this;rw[this]at hb
   cases hb
  rw[setRow_other w g b _ this];exact h.imm b o hb
 ·intro p hp
  rcases List.mem_cons.1 hp with rfl|hp
  ·exact h.apart (g,.cells cs t (0,0)) (by simp)
  ·exact h.apart p (by simp[hp])
section
variable {P:Program} {W w:World} {I:Nat→Option Obj} {F L:List (Nat × Obj)}
def Off0 (v:Value):Prop:=∀g off n c,v=.slice (some ⟨g,off,none⟩) n c→off=0
theorem Off0.nil {n c:Nat}:Off0 (.slice none n c):=fun _ _ _ _ h=>by cases h
theorem Off0.head {g n c:Nat}:Off0 (.slice (some ⟨g,0,none⟩) n c):=fun _ _ _ _ h=>by cases h;rfl
theorem run_append_row0 (t ty e:TypeId) (z:Value) (size bytes:Nat) (ht:P.underlying t=some (.slice e)) (hi:(P.info? e).map (fun i=>(i.zero,i.size,i.bytes))=some (some z,size,bytes)) (hzs:z.cells.size=size) (hsz:0 < size)
  {v:Value} {n:Nat} {xs:List Value} (hrow:Row e size v n xs L) (hst:St W w I (L++F)) {A:Option Addr} {m c:Nat} {news:List Value} (hsrc:Src w size A m news) (h1:∀u∈news,u.oneCell'=true)
  (h63:n+m≤maxLen) (hbytes:(n+m)*bytes≤140737488355328) :
  ∃v' w' L',(Builtin.append_ #[t,t] ty #[v,.slice A m c]).run P w=.ok v' w'∧Row e size v' (n+m) (xs++news) L'∧St W w' I (L'++F)∧(Off0 v→Off0 v'):=by
 obtain⟨i,hi0,hz,hsize,hby⟩:=info_parts hi;subst hsize;subst hby
 have hsmall:n+m≤9223372036854775807:=by simp only[maxLen]at h63;omega
 have hlen:(xs++news).length=(n+m)*i.size:=by rw[List.length_append,hrow.1,hsrc.1,Nat.add_mul]
 -- an empty source
 by_cases hm:m=0
 ·subst hm
  have hn:news=[]:=List.eq_nil_of_length_eq_zero (by simpa using hsrc.1);subst hn;refine⟨v,w,L,?_,by simpa using hrow,hst,id⟩
  have hf:(Builtin.firstCells i.size 0 (.slice A 0 c)).run P w=.ok #[] w:=by
   cases A with
   | none=>simp[Builtin.firstCells]
   | some a=>simp[Builtin.firstCells,loadCells,loadCellsFrom]
  obtain⟨_,⟨rfl,rfl,_⟩|⟨g,off,cap,cur,rfl,_,hnc,_⟩⟩:=hrow
  ·simp[Builtin.append_,run_underlying ht,sizeOf,typeInfo,hi0,Builtin.lenOf,hf]
  ·simp[Builtin.append_,run_underlying ht,sizeOf,typeInfo,hi0,Builtin.lenOf,hnc,hf,storeCells]
 -- the source's address
 have hA:∃ad,A=some ad:=by
  have hl:=hsrc.1
  have:0 < news.length:=by rw[hl];exact Nat.mul_pos (by omega) hsz
  obtain⟨ad,h,_⟩:=hsrc.2 0 _ (List.getElem?_eq_getElem this);exact⟨ad,h⟩
 obtain⟨ad,rfl⟩:=hA
 have hnews:∀j u,news[j]?=some u→w.cell? (ad.add j)=some u:=by
  intro j u hj;obtain⟨ad',h,h'⟩:=hsrc.2 j u hj
  injection h with h
  subst h;exact h'
 -- what the growing arm leaves
 have grown : ∀ old, old < n + m → Row e i.size (.slice (some ⟨w.heap.size, 0, none⟩) (n + m) (grownCap w (n + m) old e)) (n + m) (xs ++ news) [(w.heap.size, .cells (xs.toArray ++ news.toArray ++ Builtin.zeroCells z.cells (grownCap w (n + m) old e - (n + m))) e (0, 0))] ∧
   St W (w.drew.alloc (.cells (xs.toArray++news.toArray++Builtin.zeroCells z.cells (grownCap w (n+m) old e-(n+m))) e)) I ([(w.heap.size,.cells (xs.toArray++news.toArray++Builtin.zeroCells z.cells (grownCap w (n+m) old e-(n+m))) e (0,0))]++F):=by
  intro old ho;have hge:=grownCap_ge w (n+m) old e;refine⟨⟨hlen,.inr ⟨w.heap.size,0,_,_,rfl,rfl,hge,grownCap_le h63,?_,?_⟩⟩,(St.weaken hst).drew1.alloc _⟩
  ·simp only[Array.size_append,List.size_toArray,size_zeroCells,hzs,hrow.1,hsrc.1,←Nat.add_mul,Nat.zero_add]
   exact Nat.mul_le_mul_right _ (by omega)
  ·simp only[Array.toList_append,List.append_assoc,List.drop_zero]
   rw[←List.append_assoc,←hlen];exact List.take_left
 obtain⟨hxl,⟨rfl,rfl,rfl⟩|⟨g,off,cap,cur,rfl,rfl,hnc,hcm,hfit,hx⟩⟩:=hrow
 ·have hx:xs=[]:=List.eq_nil_of_length_eq_zero (by simpa using hxl)
  subst hx;have hr:=run_append_nil (P:=P) w t ty e i z ht hi0 hz ad m c news hsrc.1 hnews (by omega) (by omega) (by simp only[Nat.zero_add]at hbytes;omega);have hgr:=grown 0 (by omega);simp only[Nat.zero_add,List.nil_append,Array.empty_append]at hgr ⊢;exact⟨_,_,_,hr,hgr.1,hgr.2,fun _=>Off0.head⟩
 ·by_cases hroom:n+m≤cap
  ·have hg:w.heap[g]?=some (.cells cur e (0,0)):=hst.own (g,.cells cur e (0,0)) (by simp)
   have hle:(n+m)*i.size≤cap*i.size:=Nat.mul_le_mul_right _ hroom
   have hcs:off+n*i.size+news.length≤cur.size:=by rw[hsrc.1];rw[Nat.add_mul]at hle;omega
   have hf:=run_firstCells_some (P:=P) w i.size m ad m c news hsrc.1 hnews;have hs:=run_storeCells_at P g (off+n*i.size) e news 0 cur w hg (by simpa using hcs) h1;simp only[Nat.add_zero]at hs;refine⟨.slice (some ⟨g,off,none⟩) (n+m) cap,_,_,?_,⟨hlen,.inr ⟨g,off,cap,(cur.toList.take (off+n*i.size)++news++cur.toList.drop (off+n*i.size+news.length)).toArray,rfl,rfl,hroom,hcm,?_,?_⟩⟩,St.setRow (F:=F) hst _,fun h0=>by rw[h0 _ _ _ _ rfl];exact Off0.head⟩
   ·simp[Builtin.append_,run_underlying ht,sizeOf,typeInfo,hi0,Builtin.lenOf,hroom,hf,Addr.add_lit,hs]
   ·simp only[List.size_toArray,List.length_append,List.length_take,List.length_drop,Array.length_toList]
    omega
   ·have e1 : (cur.toList.take (off + n * i.size)).drop off = xs := by
     rw[List.drop_take,show off+n*i.size-off=n*i.size by omega];exact hx
    have e2:off≤(cur.toList.take (off+n*i.size)).length:=by simp;omega
    simp only[List.append_assoc];rw[List.drop_append_of_le_length e2,e1,←List.append_assoc,←hlen];exact List.take_left
  ·have holds : ∀ j u, xs[j]? = some u → w.cell? ((⟨g, off, none⟩ : Addr).add j) = some u := by
    intro j u hj;have hrow:Row e i.size (.slice (some ⟨g,off,none⟩) n cap) n xs [(g,.cells cur e (0,0))]:=⟨hxl,.inr ⟨g,off,cap,cur,rfl,rfl,hnc,hcm,hfit,hx⟩⟩;obtain⟨ad',h,h'⟩:=(hrow.src fun p hp=>hst.own p (List.mem_append.2 (.inl hp))).2 j u hj
    injection h with h
    subst h;exact h'
   have hr:=run_append_grow (P:=P) w t ty e i z ht hi0 hz ⟨g,off,none⟩ n cap xs hxl holds ad m c news hsrc.1 hnews (by omega) (by omega) (growslice_fits (by omega) hbytes);have hgr:=grown cap (by omega);exact⟨_,_,_,hr,hgr.1,hgr.2,fun _=>Off0.head⟩
theorem run_append_row (t ty e:TypeId) (z:Value) (size bytes:Nat) (ht:P.underlying t=some (.slice e)) (hi:(P.info? e).map (fun i=>(i.zero,i.size,i.bytes))=some (some z,size,bytes)) (hzs:z.cells.size=size) (hsz:0 < size)
  {v:Value} {n:Nat} {xs:List Value} (hrow:Row e size v n xs L) (hst:St W w I (L++F)) {A:Option Addr} {m c:Nat} {news:List Value} (hsrc:Src w size A m news) (h1:∀u∈news,u.oneCell'=true)
  (h63:n+m≤maxLen) (hbytes:(n+m)*bytes≤140737488355328) :
  ∃v' w' L',(Builtin.append_ #[t,t] ty #[v,.slice A m c]).run P w=.ok v' w'∧Row e size v' (n+m) (xs++news) L'∧St W w' I (L'++F):=
 let ⟨v',w',L',a,b,c,_⟩:=run_append_row0 (P:=P) t ty e z size bytes ht hi hzs hsz hrow hst (c:=c) hsrc h1 h63 hbytes
 ⟨v',w',L',a,b,c⟩
theorem yn {ops:Array Oper} {rest:List Oper} {o:Oper} {a:Act} {Q:Exit→Act→World→Prop} (hgd:o.guard=none) (s x:Operand) (t:TypeId)
  (ho:o.op=.call { callee:=.builtin .append,args:=#[s,x],argTypes:=#[t,t] })
  (e:TypeId) (z:Value) (size bytes:Nat) (ht:P.underlying t=some (.slice e)) (hi:(P.info? e).map (fun i=>(i.zero,i.size,i.bytes))=some (some z,size,bytes)) (hzs:z.cells.size=size) (hsz:0 < size)
  {v:Value} {n:Nat} {xs:List Value} (hs:a.eval s=v) (hrow:Row e size v n xs L) (hst:St W w I (L++F)) {A:Option Addr} {m c:Nat} {news:List Value} (hx:a.eval x=.slice A m c) (hsrc:Src w size A m news) (h1:∀u∈news,u.oneCell'=true)
  (k:Nat) (hk:n+m=k) (ys:List Value) (hys:xs++news=ys) (h63:k≤maxLen) (hbytes:k*bytes≤140737488355328)
  (h:∀A' c' w' L',Row e size (.slice A' k c') k ys L'→St W w' I (L'++F)→wpList P ops Q rest (a.put o.dst (.slice A' k c')) w'):wpList P ops Q (o::rest) a w:=by
 subst hk;subst hys
 refine wpList_plain hgd fun K hK=>?_
 obtain⟨v',w',L',hr,h2,h3⟩:=run_append_row (P:=P) t o.type e z size bytes ht hi hzs hsz hrow hst (c:=c) hsrc h1 h63 hbytes;unfold Oper.wp execOp;simp only[ho,resolve,invoke,builtin,Sem.run_bind,Sem.run_pure,Result.andThen_ok,List.map_toArray,List.map_cons,List.map_nil,hs,hx,hr];obtain⟨A',c',rfl⟩:=h2.shape;exact hK _ _ (h A' c' w' L' h2 h3)
theorem z8 {ops:Array Oper} {rest:List Oper} {o:Oper} {a:Act} {Q:Exit→Act→World→Prop} (hgd:o.guard=none) (s x:Operand) (t:TypeId)
  (ho:o.op=.call { callee:=.builtin .append,args:=#[s,x],argTypes:=#[t,t] })
  (e:TypeId) (z:Value) (size bytes:Nat) (ht:P.underlying t=some (.slice e)) (hi:(P.info? e).map (fun i=>(i.zero,i.size,i.bytes))=some (some z,size,bytes)) (hzs:z.cells.size=size) (hsz:0 < size)
  {v:Value} {n:Nat} {xs:List Value} (hs:a.eval s=v) (hrow:Row e size v n xs L) (hst:St W w I (L++F)) {A:Option Addr} {m c:Nat} {news:List Value} (hx:a.eval x=.slice A m c) (hsrc:Src w size A m news) (h1:∀u∈news,u.oneCell'=true)
  (k:Nat) (hk:n+m=k) (ys:List Value) (hys:xs++news=ys) (h63:k≤maxLen) (hbytes:k*bytes≤140737488355328)
  (h:∀A' c' w' L',Row e size (.slice A' k c') k ys L'→St W w' I (L'++F)→(Off0 v→Off0 (.slice A' k c'))→wpList P ops Q rest (a.put o.dst (.slice A' k c')) w'):wpList P ops Q (o::rest) a w:=by
 subst hk;subst hys
 refine wpList_plain hgd fun K hK=>?_
 obtain⟨v',w',L',hr,h2,h3,h4⟩:=run_append_row0 (P:=P) t o.type e z size bytes ht hi hzs hsz hrow hst (c:=c) hsrc h1 h63 hbytes;unfold Oper.wp execOp;simp only[ho,resolve,invoke,builtin,Sem.run_bind,Sem.run_pure,Result.andThen_ok,List.map_toArray,List.map_cons,List.map_nil,hs,hx,hr];obtain⟨A',c',rfl⟩:=h2.shape;exact hK _ _ (h A' c' w' L' h2 h3 h4)
end
def zg:Array Value→Nat→List Value→Array Value
 | cs,_,[]=>cs
 | cs,o,v::vs=>zg (cs.setIfInBounds o v) (o+1) vs
theorem yd:∀(vs:List Value) (cs:Array Value) (o:Nat),(zg cs o vs).size=cs.size
 | [],_,_=>rfl
 | v::vs,cs,o=>by rw[zg,yd vs];simp
theorem zab:∀(vs:List Value) (cs:Array Value) (o j:Nat),o+vs.length≤cs.size→(zg cs o vs)[j]?=if o≤j∧j < o+vs.length then vs[j-o]? else cs[j]?
 | [],cs,o,j,_=>by simp[zg];omega
 | v::vs,cs,o,j,h=>by
  simp only[List.length_cons]at h;rw[zg,zab vs _ _ j (by simp;omega)]
  by_cases h1:j=o
  ·subst h1
   have hj:j < cs.size:=by omega
   rw[if_neg (by omega),if_pos ⟨Nat.le_refl _,by simp⟩]
   simp[hj]
  ·by_cases h2:o≤j∧j < o+(v::vs).length
   ·simp only[List.length_cons]at h2
    rw[if_pos (by omega),if_pos (by simp;omega),show j-o=(j-(o+1))+1 by omega]
    simp
   ·simp only[List.length_cons]at h2
    rw[if_neg (by omega),if_neg (by simp;omega),Array.getElem?_setIfInBounds_ne (by omega)]
theorem zd (cs:Array Value) (vs:List Value) (h:vs.length=cs.size):zg cs 0 vs=vs.toArray:=by
 apply Array.ext_getElem?;intro j;rw[zab vs cs 0 j (by omega)]
 split
 ·simp
 ·rename_i hj
  rw[Array.getElem?_eq_none (by omega),Array.getElem?_eq_none (by simp;omega)]
section
variable {P:Program} {W w:World} {I:Nat→Option Obj} {F:List (Nat × Obj)}
theorem St.setCells {g:Nat} {t:TypeId}:∀(vs:List Value) (o:Nat) (cs:Array Value) (w:World),St W w I ((g,.cells cs t (0,0))::F)→St W (w.setCells g o vs) I ((g,.cells (zg cs o vs) t (0,0))::F)
 | [],_,_,_,h=>h
 | v::vs,o,cs,w,h=>St.setCells vs (o+1) _ _ (St.set (A:=[]) h o v)
theorem St.rangeAt {L:List (Nat × Obj)} (h:St W w I L) {g off:Nat} {cs:Array Value} {t:TypeId} {fr:Nat × Nat} (hp:(g,Obj.cells cs t fr)∈L) {ys:List Value} (hys:∀j,j < ys.length→cs[off+j]?=ys[j]?):w.rangeAt g off ys:=fun j v hv=>by
 rw[h.cell hp,hys j (List.getElem?_eq_some_iff.1 hv).1];exact hv
theorem zo {ops:Array Oper} {rest:List Oper} {o:Oper} {a:Act} {Q:Exit→Act→World→Prop} (hgd:o.guard=none) (ty:TypeId) (x:Operand) (ho:o.op=.load ty x) {g off:Nat} (hx:a.eval x=.pointer (some ⟨g,off,none⟩))
  {L:List (Nat × Obj)} (hst:St W w I L) {cs:Array Value} {t:TypeId} {fr:Nat × Nat} (hp:(g,Obj.cells cs t fr)∈L) (ys:Array Value) (hys:∀j,j < ys.size→cs[off+j]?=ys[j]?) (d:TypeDesc) (hu:P.underlying ty=some d) (hd:d.isRow=true)
  (hi:(P.info? ty).map (·.size)=some ys.size) (h:wpList P ops Q rest (a.put o.dst (.agg ys)) w):wpList P ops Q (o::rest) a w:=
 wpList_load_mid hgd ty x ho g off hx ys.toList d (hst.rangeAt hp (by simpa using hys)) hu hd (by simpa using hi) (by simpa using h)
theorem zj {ops:Array Oper} {rest:List Oper} {o:Oper} {a:Act} {Q:Exit→Act→World→Prop} (hw:Region.wanted o (yielded ops a.tmps)=true) (ty:TypeId) (x:Operand) (ho:o.op=.load ty x) {g off:Nat} (hx:a.eval x=.pointer (some ⟨g,off,none⟩))
  {L:List (Nat × Obj)} (hst:St W w I L) {cs:Array Value} {t:TypeId} {fr:Nat × Nat} (hp:(g,Obj.cells cs t fr)∈L) (ys:Array Value) (hys:∀j,j < ys.size→cs[off+j]?=ys[j]?) (d:TypeDesc) (hu:P.underlying ty=some d) (hd:d.isRow=true)
  (hi:(P.info? ty).map (·.size)=some ys.size) (h:wpList P ops Q rest (a.put o.dst (.agg ys)) w):wpList P ops Q (o::rest) a w:=
 wpList_step fun K hK=>by
  rw[if_pos hw];exact wp_load_mid ty x ho g off hx ys.toList d (hst.rangeAt hp (by simpa using hys)) hu hd (by simpa using hi) (hK _ _ (by simpa using h))
theorem zc {ops:Array Oper} {rest:List Oper} {o:Oper} {a:Act} {Q:Exit→Act→World→Prop} (hgd:o.guard=none) (ty:TypeId) (x y:Operand) (ho:o.op=.store ty x y) {g off:Nat} (cells:Array Value) (hx:a.eval x=.pointer (some ⟨g,off,none⟩)) (hy:a.eval y=.agg cells)
  {cs:Array Value} {t:TypeId} (hst:St W w I ((g,.cells cs t (0,0))::F)) (hfit:off+cells.size≤cs.size) (hi:(P.info? ty).map (·.size)=some cells.size) (h1:cells.all (·.oneCell')=true)
  (h:∀w',St W w' I ((g,.cells (zg cs off cells.toList) t (0,0))::F)→wpList P ops Q rest (a.put o.dst undef) w'):wpList P ops Q (o::rest) a w:=
 wpList_store_mid hgd ty x y ho g off cells hx hy (fun j hj=>⟨by rw[hst.cell (g:=g) (cs:=cs) (t:=t) (fr:=(0,0)) (by simp)];simp;omega,hst.frozen (g:=g) (cs:=cs) (t:=t) (by simp) _⟩) hi h1 (h _ (St.setCells _ _ _ _ hst))
end
def bval (b:UInt8):Value:=.int .u8 (b.toNat:Int)
section
variable {P:Program} {t e:TypeId}
end
section
variable {P:Program} {W w:World} {I:Nat→Option Obj} {F:List (Nat × Obj)}
end
end Go.Proofs.YtnjnooeldkideaaGreatDoor
