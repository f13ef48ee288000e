/- Two rows of plain cells held against each other: '==' says whether they are the same. '==' on slots, tables and changes; a cell that is stored into a row. -/
import Derived.Test.YtnjnooeldkideaaGreatDoorArgs
import Derived.DeepKeys
import Derived.Test.YtnjnooeldkideaaGreatDoorOrN
namespace Go.Proofs.YtnjnooeldkideaaGreatDoor
set_option maxRecDepth 100000
section
set_option linter.unusedVariables false
set_option linter.unusedSimpArgs false
open Go.RowKit
inductive Kn where
 | bool
 | int (q:IntKind)
 | str
 deriving DecidableEq
def Kn.ok:Kn→Value→Prop
 | .bool,.bool _=>True
 | .int q,.int q' n=>q'=q∧(Lit.int q n).wf=true
 | .str,.string s=>s.size≤maxLen
 | _,_=>False
def litV:Value→Lit
 | .bool b=>.bool b
 | .int q n=>.int q n
 | .string s=>.string s.data.toList
 | _=>.bool false
def goodRow:List Kn→List Value→Prop
 | [],[]=>True
 | k::ks,v::vs=>k.ok v∧goodRow ks vs
 | _,_=>False
theorem goodRow.len:∀{ks:List Kn} {vs:List Value},goodRow ks vs→vs.length=ks.length
 | [],[],_=>rfl
 | _::_,_::_,h=>by simp[goodRow.len h.2]
 | [],_::_,h=>h.elim
 | _::_,[],h=>h.elim
theorem goodRow.app:∀{ks ks':List Kn} {vs vs':List Value},goodRow ks vs→goodRow ks' vs'→goodRow (ks++ks') (vs++vs')
 | [],_,[],_,_,h=>h
 | _::_,_,_::_,_,h,h'=>⟨h.1,goodRow.app h.2 h'⟩
 | [],_,_::_,_,h,_=>h.elim
 | _::_,_,[],_,h,_=>h.elim
theorem goodRow.split:∀(a:List Kn) {b:List Kn} {vs:List Value},goodRow (a++b) vs→goodRow a (vs.take a.length)∧goodRow b (vs.drop a.length)
 | [],b,vs,h=>⟨by simp[goodRow],by simpa using h⟩
 | k::a,b,[],h=>h.elim
 | k::a,b,v::vs,h=>by
  obtain⟨h1,h2⟩:=goodRow.split a h.2;exact⟨⟨h.1,h1⟩,h2⟩
theorem goodRow.inj:∀{ks:List Kn} {vs us:List Value},goodRow ks vs→goodRow ks us→(vs.map litV=us.map litV↔vs=us)
 | [],[],[],_,_=>by simp
 | k::ks,v::vs,u::us,h,h'=>by
  have ih:=goodRow.inj h.2 h'.2
  have h0:litV v=litV u↔v=u:=by
   have a1:=h.1;have a2:=h'.1
   cases k<;>cases v<;>simp only[Kn.ok]at a1<;>cases u<;>simp only[Kn.ok]at a2<;>simp[litV]
   rename_i s s'
   constructor
   ·intro e
    exact ByteArray.ext e
   ·rintro rfl;rfl
  simp only[List.map_cons,List.cons.injEq,h0,ih]
 | [],_::_,_,h,_=>h.elim
 | _::_,[],_,h,_=>h.elim
 | [],[],_::_,_,h=>h.elim
 | _::_,_::_,[],_,h=>h.elim
def qh (P:Program):Nat→TypeId→Option (List Kn)
 | 0,_=>none
 | d+1,t=>match P.underlying t with
  | some .bool=>some [.bool]
  | some (.int q)=>some [.int q]
  | some .string=>some [.str]
  | some (.array n e)=>match qh P d e with
   | some ks=>if P.cellsOf e=ks.length∧P.cellsOf t=n*ks.length then some (List.replicate n ks).flatten else none
   | none=>none
  | some (.struct fs) => if fs.all (·.name != "_") = true then
    (match (fs.toList.foldl (fun(acc:Option (List Kn)) f=>match acc,qh P d f.type with
     | some done,some ks=>if f.offset=done.length∧P.cellsOf f.type=ks.length then some (done++ks) else none
     | _,_=>none) (some [])) with
    | some ks=>if P.cellsOf t=ks.length then some ks else none
    | none=>none) else none
  | _=>none
section
variable {P:Program}
theorem uu (d:Nat):∀(fs:List Field),fs.foldl (fun(acc:Option (List Kn)) f=>match acc,qh P d f.type with
     | some done,some ks=>if f.offset=done.length∧P.cellsOf f.type=ks.length then some (done++ks) else none
     | _,_=>none) none=none
 | []=>rfl
 | f::fs=>by rw[List.foldl_cons];exact uu d fs
theorem keyLits_struct (d:Nat) (IH:∀(t:TypeId) (ks:List Kn) (cs:List Value),qh P d t=some ks→goodRow ks cs→P.keyLits d t cs=some (cs.map litV)) :
  ∀ (fs : List Field) (done ks : List Kn) (cs : List Value), (fs.foldl (fun (acc : Option (List Kn)) f => match acc, qh P d f.type with
     | some done,some ks=>if f.offset=done.length∧P.cellsOf f.type=ks.length then some (done++ks) else none
     | _,_=>none) (some done))=some ks→goodRow ks cs→
   ∃ls,fs.mapM (fun f=>P.keyLits d f.type ((cs.drop f.offset).take (P.cellsOf f.type)))=some ls∧ls.flatten=(cs.drop done.length).map litV
 | [],done,ks,cs,h,hg=>by
  simp only[List.foldl_nil,Option.some.injEq]at h;subst h;exact⟨[],rfl,by rw[List.drop_of_length_le (by rw[hg.len];omega)];rfl⟩
 | f::fs,done,ks,cs,h,hg=>by
  rw[List.foldl_cons]at h
  cases hk:qh P d f.type with
  | none=>rw[hk]at h;dsimp only at h;rw[uu]at h;cases h
  | some kf=>
   rw[hk]at h;dsimp only at h
   split at h
   ·rename_i hc
    obtain⟨ls,h1,h2⟩:=keyLits_struct d IH fs (done++kf) ks cs h hg
    -- ks begins with done ++ kf
    have hpre:∃r,ks=(done++kf)++r:=by
     clear h1 h2 hg hk hc;generalize done++kf=x at h
     induction fs generalizing x with
     | nil=>simp only[List.foldl_nil,Option.some.injEq]at h;exact⟨[],by simp[h]⟩
     | cons g fs ih=>
      rw[List.foldl_cons]at h
      cases hk2:qh P d g.type with
      | none=>rw[hk2]at h;dsimp only at h;rw[uu]at h;cases h
      | some kg=>
       rw[hk2]at h;dsimp only at h
       split at h
       ·obtain⟨r,hr⟩:=ih _ h
        exact⟨kg++r,by rw[hr];simp⟩
       ·rw[uu]at h;cases h
    obtain⟨r,rfl⟩:=hpre;rw[List.append_assoc]at hg;obtain⟨_,g2⟩:=goodRow.split done hg;obtain⟨g3,_⟩:=goodRow.split kf g2;have e:=IH f.type kf ((cs.drop done.length).take kf.length) hk g3;refine⟨((cs.drop done.length).take kf.length).map litV::ls,?_,?_⟩
    ·rw[List.mapM_cons,hc.1,hc.2,e,h1]
     rfl
    ·rw[List.flatten_cons,h2,List.length_append,←List.drop_drop,←List.map_append,List.take_append_drop]
   ·rw[uu]at h;cases h
theorem keyLits_array (d:Nat) (e:TypeId) (ks:List Kn) (IH:∀(cs:List Value),goodRow ks cs→P.keyLits d e cs=some (cs.map litV)) (hc:P.cellsOf e=ks.length) (cs:List Value) :
  ∀(n i:Nat),goodRow (List.replicate n ks).flatten (cs.drop (i*ks.length))→∃ls,(List.range' i n).mapM (fun j=>P.keyLits d e ((cs.drop (j*P.cellsOf e)).take (P.cellsOf e)))=some ls∧ls.flatten=(cs.drop (i*ks.length)).map litV
 | 0,i,hg=>by
  have:(cs.drop (i*ks.length)).length=0:=hg.len;exact⟨[],rfl,by rw[List.eq_nil_of_length_eq_zero this];rfl⟩
 | n+1,i,hg=>by
  rw[List.replicate_succ,List.flatten_cons]at hg;obtain⟨g1,g2⟩:=goodRow.split ks hg;rw[List.drop_drop,show i*ks.length+ks.length=(i+1)*ks.length by rw[Nat.succ_mul]]at g2;obtain⟨ls,h1,h2⟩:=keyLits_array d e ks IH hc cs n (i+1) g2;have e1:=IH _ g1;refine⟨((cs.drop (i*ks.length)).take ks.length).map litV::ls,?_,?_⟩
  ·rw[List.range'_succ,List.mapM_cons,hc,e1,←hc,h1]
   rfl
  ·rw[List.flatten_cons,h2,Nat.succ_mul,←List.drop_drop,←List.map_append,List.take_append_drop]
theorem u1:∀(d:Nat) (t:TypeId) (ks:List Kn) (cs:List Value),qh P d t=some ks→goodRow ks cs→P.keyLits d t cs=some (cs.map litV)
 | 0,_,_,_,h,_=>by cases h
 | d+1,t,ks,cs,h,hg=>by
  unfold qh at h;unfold Program.keyLits
  cases hu:P.underlying t with
  | none=>rw[hu]at h;cases h
  | some kd=>
   rw[hu]at h
   cases kd<;>dsimp only at h<;>first|(cases h;done)|skip
   case some.bool=>
    cases h
    match cs,hg with
    | [.bool b],_=>rfl
   case some.int q=>
    cases h
    match cs,hg with
    | [.int q' n],hg=>
     obtain⟨⟨rfl,hw⟩,_⟩:=hg
     simp[hw,litV]
   case some.string=>
    cases h
    match cs,hg with
    | [.string s],hg=>
     have:s.size≤maxLen:=hg.1
     simp[this,litV]
   case some.array n e=>
    cases hk:qh P d e with
    | none=>rw[hk]at h;cases h
    | some ke=>
     rw[hk]at h;dsimp only at h
     split at h
     ·rename_i hc
      cases h
      have hlen:cs.length=P.cellsOf t:=by
       rw[hg.len,hc.2]
       simp
      obtain⟨ls,h1,h2⟩:=keyLits_array d e ke (fun cs h=>u1 d e ke cs hk h) hc.1 cs n 0 (by simpa using hg);rw[←List.range_eq_range']at h1;dsimp only;rw[if_pos hlen,h1];simp only[Option.map_some,h2]
      simp
     ·cases h
   case some.struct fs=>
    split at h
    ·rename_i hn
     split at h
     ·rename_i ks' hf
      split at h
      ·rename_i hc
       cases h
       obtain⟨ls,h1,h2⟩:=keyLits_struct d (fun t ks cs=>u1 d t ks cs) fs.toList [] ks cs hf hg;dsimp only;rw[if_pos ⟨by rw[hg.len,hc],hn⟩,h1];simp only[Option.map_some,h2]
       simp
      ·cases h
     ·cases h
    ·cases h
theorem zbe {t:TypeId} {ks:List Kn} (m:Nat) (hm:m≤10000) (hk:P.keyTypeAt m t=true) (hr:(match P.underlying t with|some (.array _ _)|some (.struct _)=>true|_=>false)=true) (d:Nat) (hks:qh P d t=some ks) (hc:P.cellsOf t=ks.length) {xs ys:Array Value} (hx:goodRow ks xs.toList) (hy:goodRow ks ys.toList) (w:World) :
  ∃r:Bool,(Op.equalIn 10000 t (.agg xs) (.agg ys)).run P w=.ok r w∧(r=true↔xs=ys):=by
 have hf:∀zs:Array Value,goodRow ks zs.toList→(Value.agg zs).formed P t=true:=fun zs hz=>by
  have hs:zs.size=P.cellsOf t:=by rw[hc,←hz.len,Array.length_toList]
  cases hu:P.underlying t with
  | none=>rw[hu]at hr;cases hr
  | some kd=>rw[hu]at hr;cases kd<;>simp at hr<;>simp[Value.formed,hu,hs]
 obtain⟨r,h1,h2⟩:=run_equalIn_deep (P:=P) (10000-m) m t hk w d d (.agg xs) (.agg ys) _ _ (hf xs hx) (hf ys hy) (u1 d t ks xs.toList hks hx) (u1 d t ks ys.toList hks hy);rw[show 10000-m+m=10000 by omega]at h1;exact⟨r,h1,h2.trans ((goodRow.inj hx hy).trans Array.toList_inj)⟩
end
end

section
set_option linter.unusedVariables false
set_option linter.unusedSimpArgs false
open Go.RowKit Go.Lib Go.Deep
def kI:Kn:=.int .i64
def slotK:List Kn:=[kI,kI,.int .u64,kI]++List.replicate 32 (.int .u8)
theorem kI_ok {n:Int} (h0:-9223372036854775808≤n) (h1:n≤9223372036854775807):kI.ok (.int .i64 n):=⟨rfl,by simp[Lit.wf,IntKind.min,IntKind.max,IntKind.signed,IntKind.bits];exact⟨h0,h1⟩⟩
theorem kU_ok {n:Int} (h0:0≤n) (h1:n≤18446744073709551615):(Kn.int .u64).ok (.int .u64 n):=⟨rfl,by simp[Lit.wf,IntKind.min,IntKind.max,IntKind.signed,IntKind.bits];exact⟨h0,h1⟩⟩
theorem good_bytes:∀(ds:List UInt8),goodRow (List.replicate ds.length (.int .u8)) (ds.map bval)
 | []=>trivial
 | d :: ds => ⟨⟨rfl, by
   have:=d.toNat_lt
   simp[Lit.wf,IntKind.min,IntKind.max,IntKind.signed,IntKind.bits]
   omega⟩,good_bytes ds⟩
theorem ud (s:Slt) (ok:s.Ok):goodRow slotK s.cells.toList:=by
 have h:=good_bytes s.dig;rw[ok.dig]at h;exact goodRow.app (ks:=[kI,kI,.int .u64,kI]) (vs:=[.int .i64 s.st,.int .i64 s.tr,.int .u64 s.ver,.int .i64 s.sz]) ⟨kI_ok ok.st0 ok.st1,kI_ok ok.tr0 ok.tr1,kU_ok ok.ver0 ok.ver1,kI_ok ok.sz0 ok.sz1,trivial⟩ h
def changeK:List Kn:=[kI,kI,kI]++(slotK++[.int .u64])
def tableK:List Kn:=slotK++(slotK++[kI,kI,.int .u64])
theorem good_change (c:Cg) (ok:c.Ok):goodRow changeK c.cells.toList:=
 goodRow.app (ks:=[kI,kI,kI]) (vs:=[.int .i64 c.kind,.int .i64 c.slot,.int .i64 c.n]) ⟨kI_ok ok.k0 ok.k1,kI_ok ok.s0 ok.s1,kI_ok ok.n0 ok.n1,trivial⟩
  (goodRow.app (ud _ ok.tos) ⟨kU_ok ok.v0 ok.v1,trivial⟩)
theorem zah (t:Tb) (ok:t.Ok):goodRow tableK t.cells.toList:=
 goodRow.app (ud _ ok.s0) (goodRow.app (ud _ ok.s1) ⟨kI_ok ok.a0 ok.a1,kI_ok ok.b0 ok.b1,kU_ok ok.f0 ok.f1,trivial⟩)
theorem j5 (c:Cg) (ok:c.Ok) (w:World):(Op.equalIn 10000 147 (.agg c.cells) (.agg c.cells)).run Tryz.prog w=.ok true w:=by
 obtain⟨r,h1,h2⟩:=zbe (P:=Tryz.prog) (t:=147) 10 (by omega) (by kernel_rfl) (by kernel_rfl) 10 (ks:=changeK) (by kernel_rfl) (by kernel_rfl) (good_change c ok) (good_change c ok) w;rw[h1,h2.2 rfl]
theorem eq_table (x y:Tb) (okx:x.Ok) (oky:y.Ok) (w:World):∃r:Bool,(Op.equalIn 10000 29 (.agg x.cells) (.agg y.cells)).run Tryz.prog w=.ok r w∧(r=true↔x.cells=y.cells):=
 zbe 10 (by omega) (by kernel_rfl) (by kernel_rfl) 10 (ks:=tableK) (by kernel_rfl) (by kernel_rfl) (zah x okx) (zah y oky) w
section
variable {P:Program} {W w:World} {I:Nat→Option Obj} {F:List (Nat × Obj)}
theorem run_storeVar_one (w:World) (b o:Nat) (ty:TypeId) (v:Value) (hc:v.cells=#[v]) (ht:w.there b o 1) (hi:(P.info? ty).map (·.size)=some 1) (h1:v.oneCell'=true) :
  (storeVar ty ⟨b,o,none⟩ v).run P w=.ok () (w.setCells b o [v]):=by
 have:=run_storeCells_cells (P:=P) b o [v] 0 w (fun j hj=>by simpa using(ht j (by simpa using hj)).1) (fun j hj=>by simpa using(ht j (by simpa using hj)).2)
  (fun u hu=>by simp only[List.mem_singleton]at hu;subst hu;exact h1)
 cases hq:P.info? ty with
 | none=>simp[hq]at hi
 | some i=>
  have hs:i.size=1:=by simp[hq]at hi;omega
  simp only[Nat.add_zero]at this
  simp[storeVar,sizeOf,typeInfo,hq,hc,hs,this]
theorem wp_store_one {op:Oper} {a:Act} {K:Act→World→Prop} {Q:Exit→Act→World→Prop} (ty:TypeId) (x y:Operand) (ho:op.op=.store ty x y)
  (b o:Nat) (v:Value) (hc:v.cells=#[v]) (hx:a.eval x=.pointer (some ⟨b,o,none⟩)) (hy:a.eval y=v)
  (ht:w.there b o 1) (hi:(P.info? ty).map (·.size)=some 1) (h1:v.oneCell'=true)
  (h:K (a.put op.dst undef) (w.setCells b o [v])):op.wp P a w K Q:=by
 unfold Oper.wp execOp;simp only[ho,hx,hy,Instr.storeAt,Instr.sureAddr,Sem.run_bind,Sem.run_pure,Result.andThen_ok,run_storeVar_one w b o ty v hc ht hi h1];exact h
theorem St.one_there {g off:Nat} {cs:Array Value} {t:TypeId} (hst:St W w I ((g,.cells cs t (0,0))::F)) (hfit:off < cs.size):w.there g off 1:=fun j hj=>
 ⟨by rw[hst.cell (g:=g) (cs:=cs) (t:=t) (fr:=(0,0)) (by simp)];simp;omega,hst.frozen (g:=g) (cs:=cs) (t:=t) (by simp) _⟩
theorem yw {ops:Array Oper} {o:Oper} {a:Act} {K:Act→World→Prop} {Q:Exit→Act→World→Prop} {E:Prop} (hgd:o.guard=none) (ty:TypeId) (x y:Operand) (ho:o.op=.store ty x y) {g off:Nat} (v:Value) (hc:v.cells=#[v]) (hx:a.eval x=.pointer (some ⟨g,off,none⟩)) (hy:a.eval y=v)
  {cs:Array Value} {t:TypeId} (hst:St W w I ((g,.cells cs t (0,0))::F)) (hfit:off < cs.size) (hi:(P.info? ty).map (·.size)=some 1) (h1:v.oneCell'=true)
  (h:∀w',St W w' I ((g,.cells (zg cs off [v]) t (0,0))::F)→K (a.put o.dst undef) w'):if Region.wanted o (yielded ops a.tmps)=true then o.wp P a w K Q else E:=by
 rw[if_pos (by simp[Region.wanted,hgd])];exact wp_store_one ty x y ho g off v hc hx hy (hst.one_there hfit) hi h1 (h _ (St.setCells _ _ _ _ hst))
theorem zk {ops:Array Oper} {rest:List Oper} {o:Oper} {a:Act} {Q:Exit→Act→World→Prop} (hgd:o.guard=none) (ty:TypeId) (x y:Operand) (ho:o.op=.store ty x y) {g off:Nat} (v:Value) (hc:v.cells=#[v]) (hx:a.eval x=.pointer (some ⟨g,off,none⟩)) (hy:a.eval y=v)
  {cs:Array Value} {t:TypeId} (hst:St W w I ((g,.cells cs t (0,0))::F)) (hfit:off < cs.size) (hi:(P.info? ty).map (·.size)=some 1) (h1:v.oneCell'=true)
  (h:∀w',St W w' I ((g,.cells (zg cs off [v]) t (0,0))::F)→wpList P ops Q rest (a.put o.dst undef) w'):wpList P ops Q (o::rest) a w:=
 wpList_plain hgd fun K hK=>wp_store_one ty x y ho g off v hc hx hy (hst.one_there hfit) hi h1 (hK _ _ (h _ (St.setCells _ _ _ _ hst)))
end
end
end Go.Proofs.YtnjnooeldkideaaGreatDoor
