/- A table, and a change of it, as they lie in memory. table.Right; boot's looks at a table. Moves of a walk through a drawn region, with their side conditions put together. boot: a table that is looked at. boot: what is said of a view; changes. -/
import Derived.Test.YtnjnooeldkideaaGreatDoorSlotC
import Derived.Test.YtnjnooeldkideaaGreatDoorBase
import Derived.Deep.RegionHeld3
import Derived.Deep.RegionWith
import Derived.Deep.DeepCutAuto
namespace Go.Proofs.YtnjnooeldkideaaGreatDoor
set_option maxRecDepth 100000
set_option maxHeartbeats 4000000
section
set_option linter.unusedVariables false
set_option linter.unusedSimpArgs false
open Go.RowKit Go.Lib Go.Deep
theorem zb (n:Nat) {P:Program} {ops:Array Oper} {rest:List Oper} {o:Oper} {a:Act} {w:World} {Q:Exit→Act→World→Prop} (hn:o.dst=some n) (hw:Region.wanted o (yielded ops a.tmps)=true) (ty:TypeId) (x:Operand) (ho:o.op=.load ty x) (b off:Nat) (hx:a.eval x=.pointer (some ⟨b,off,none⟩)) (cs:Array Value) (d:TypeDesc) (hc:w.rangeAt b off cs.toList)
  (hu:P.underlying ty=some d) (hd:d.isRow=true) (hi:(P.info? ty).map (·.size)=some cs.size) (h:wpList P ops Q rest (a.put o.dst (.agg cs)) w):wpList P ops Q (o::rest) a w:=
 wpList_step fun K hK=>by
  rw[if_pos hw];exact wp_load_mid ty x ho b off hx cs.toList d hc hu hd (by simpa using hi) (hK _ _ (by simpa using h))
theorem yb (A B B' C:List Value) (h:B.length=B'.length):zg (A++(B++C)).toArray A.length B'=(A++(B'++C)).toArray:=by
 apply Array.ext_getElem?;intro j;rw[zab _ _ _ _ (by simp;omega)]
 split
 ·rename_i hj
  rw[List.getElem?_toArray,List.getElem?_append_right hj.1,List.getElem?_append_left (by omega)]
 ·rename_i hj
  rw[List.getElem?_toArray,List.getElem?_toArray]
  by_cases h1:j < A.length
  ·rw[List.getElem?_append_left h1,List.getElem?_append_left h1]
  ·rw[List.getElem?_append_right (by omega),List.getElem?_append_right (by omega),List.getElem?_append_right (by omega),List.getElem?_append_right (by omega),h]
theorem ze {α:Type} {l m:List α} (h:∀(_:DecidableEq α) (a:α),l.count a=m.count a:=by intro i a;simp only[List.count_append,List.count_cons,List.count_nil]<;>omega):l.Perm m:=by
 haveI:DecidableEq α:=fun a b=>Classical.propDecidable (a=b)
 exact List.perm_iff_count.2 fun a=>h _ a
theorem St.keep {W w:World} {J:Nat→Option Obj} {L M:List (Nat × Obj)} (D:List (Nat × Obj)) (h:St W w J L) (hc:∀(_:DecidableEq (Nat × Obj)) (a:Nat × Obj),L.count a=D.count a+M.count a:=by intro i a;simp only[List.count_append,List.count_cons,List.count_nil]<;>omega):St W w J M:=
 St.weaken (A:=D) (h.perm (ze fun i a=>by rw[List.count_append];exact hc i a))
structure Tb where
 s0:Slt
 s1:Slt
 act:Int
 boo:Int
 flo:Int
structure Tb.Ok (t:Tb):Prop where
 s0:t.s0.Ok
 s1:t.s1.Ok
 a0:-9223372036854775808≤t.act
 a1:t.act≤9223372036854775807
 b0:-9223372036854775808≤t.boo
 b1:t.boo≤9223372036854775807
 f0:0≤t.flo
 f1:t.flo≤18446744073709551615
def Tb.cells (t:Tb):Array Value:=(t.s0.cells.toList++(t.s1.cells.toList++[Value.int .i64 t.act,Value.int .i64 t.boo,Value.int .u64 t.flo])).toArray
def Tb.val (t:Tb):Value:=.agg t.cells
def Tb.at_ (t:Tb) (i:Int):Slt:=if i=0 then t.s0 else t.s1
def Tb.put (t:Tb) (i:Int) (s:Slt):Tb:=if i=0 then { t with s0:=s } else { t with s1:=s }
def zTb:Tb:=⟨zS,zS,0,0,0⟩
theorem zt:zTb.Ok:=⟨zS_ok,zS_ok,by decide,by decide,by decide,by decide,by decide,by decide⟩
def ixB (n:Int):Bool:=n==0||n==1
def zx (t:Tb):Bool:=rightS t.s0&&(rightS t.s1&&(ixB t.act&&((t.boo==-1||ixB t.boo)&&decide (t.flo≤281474976710656))))
theorem Slt.Ok.len {s:Slt} (h:s.Ok):s.cells.size=36:=Slt.size h.dig
section
variable {t:Tb}
theorem Tb.size (ok:t.Ok):t.cells.size=75:=by
 have h0:=ok.s0.len;have h1:=ok.s1.len
 simp[Tb.cells,h0,h1]
theorem Tb.g0 (ok:t.Ok) (j:Nat) (hj:j < 36):t.cells[j]?=t.s0.cells[j]?:=by
 have h0:=ok.s0.len;unfold Tb.cells;rw[List.getElem?_toArray,List.getElem?_append_left (by simp;omega)]
 simp
theorem Tb.g1 (ok:t.Ok) (j:Nat) (hj:j < 36):t.cells[36+j]?=t.s1.cells[j]?:=by
 have h0:=ok.s0.len;have h1:=ok.s1.len;unfold Tb.cells;rw[List.getElem?_toArray,List.getElem?_append_right (by simp;omega),List.getElem?_append_left (by simp;omega)]
 simp[h0]
theorem Tb.gt (ok:t.Ok) (j:Nat):t.cells[72+j]?=[Value.int .i64 t.act,Value.int .i64 t.boo,Value.int .u64 t.flo][j]?:=by
 have h0:=ok.s0.len;have h1:=ok.s1.len;unfold Tb.cells;rw[List.getElem?_toArray,List.getElem?_append_right (by simp;omega),List.getElem?_append_right (by simp;omega)]
 congr 1
 simp[h0,h1];omega
theorem Tb.one (t:Tb):t.cells.all (·.oneCell')=true:=by
 have h0:t.s0.cells.toList.all (·.oneCell')=true:=by rw[←t.s0.one];simp
 have h1:t.s1.cells.toList.all (·.oneCell')=true:=by rw[←t.s1.one];simp
 unfold Tb.cells;rw[List.all_toArray,List.all_append,List.all_append,h0,h1]
 rfl
theorem z7 (ok:t.Ok):(Tryz.prog.info? 29).map (·.size)=some t.cells.size:=by rw[Tb.size ok];kernel_rfl
theorem u6 (ok:t.Ok):(Tryz.prog.info? 161).map (·.size)=some t.cells.size:=by rw[Tb.size ok];kernel_rfl
theorem Tb.p0 (ok:t.Ok) (s:Slt) (sok:s.Ok):zg t.cells 0 s.cells.toList=({ t with s0:=s }:Tb).cells:=by
 have h0:=ok.s0.len;have hs:=sok.len;exact yb [] t.s0.cells.toList s.cells.toList (t.s1.cells.toList++[Value.int .i64 t.act,Value.int .i64 t.boo,Value.int .u64 t.flo]) (by simp[h0,hs])
theorem Tb.p1 (ok:t.Ok) (s:Slt) (sok:s.Ok):zg t.cells 36 s.cells.toList=({ t with s1:=s }:Tb).cells:=by
 have h0:=ok.s0.len;have h1:=ok.s1.len;have hs:=sok.len;have key:=yb t.s0.cells.toList t.s1.cells.toList s.cells.toList [Value.int .i64 t.act,Value.int .i64 t.boo,Value.int .u64 t.flo] (by simp[h1,hs]);rw[show t.s0.cells.toList.length=36 by simp[h0]]at key;exact key
theorem Tb.pt (ok:t.Ok) (k:Nat) (v:Value):t.cells.setIfInBounds (72+k) v=(t.s0.cells.toList++(t.s1.cells.toList++([Value.int .i64 t.act,Value.int .i64 t.boo,Value.int .u64 t.flo].set k v))).toArray:=by
 have h0:=ok.s0.len;have h1:=ok.s1.len;unfold Tb.cells;rw[List.setIfInBounds_toArray,List.set_append_right _ _ (by simp;omega),List.set_append_right _ _ (by simp;omega)]
 congr 4
 simp[h0,h1];omega
theorem Tb.pa (ok:t.Ok) (x:Int):t.cells.setIfInBounds 72 (.int .i64 x)=({ t with act:=x }:Tb).cells:=Tb.pt ok 0 _
theorem Tb.pb (ok:t.Ok) (x:Int):t.cells.setIfInBounds 73 (.int .i64 x)=({ t with boo:=x }:Tb).cells:=Tb.pt ok 1 _
theorem Tb.pf (ok:t.Ok) (x:Int):t.cells.setIfInBounds 74 (.int .u64 x)=({ t with flo:=x }:Tb).cells:=Tb.pt ok 2 _
end
structure TbAt (v:World) (g:Nat) (t:Tb):Prop where
 s0:v.rangeAt g 0 t.s0.cells.toList
 s1:v.rangeAt g 36 t.s1.cells.toList
 act:v.cell? ⟨g,72,none⟩=some (.int .i64 t.act)
 boo:v.cell? ⟨g,73,none⟩=some (.int .i64 t.boo)
 flo:v.cell? ⟨g,74,none⟩=some (.int .u64 t.flo)
 all:v.rangeAt g 0 t.cells.toList
 st0:v.cell? ⟨g,0,none⟩=some (.int .i64 t.s0.st)
 st1:v.cell? ⟨g,36,none⟩=some (.int .i64 t.s1.st)
section
variable {W w:World} {J:Nat→Option Obj} {g:Nat} {t:Tb} {F X:List (Nat × Obj)}
theorem St.tb {T:TypeId} {fr:Nat × Nat} (ok:t.Ok) (h:St W w J X) (hm:(g,Obj.cells t.cells T fr)∈X):TbAt w g t where
 s0:=fun j u hj=>by
  have hj36:j < 36:=by have:=(List.getElem?_eq_some_iff.1 hj).1;rw[Array.length_toList,ok.s0.len]at this;exact this
  rw[Nat.zero_add,h.cell hm j,Tb.g0 ok j hj36];simpa using hj
 s1:=fun j u hj=>by
  have hj36:j < 36:=by have:=(List.getElem?_eq_some_iff.1 hj).1;rw[Array.length_toList,ok.s1.len]at this;exact this
  rw[h.cell hm (36+j),Tb.g1 ok j hj36];simpa using hj
 act:=(h.cell hm 72).trans (Tb.gt ok 0)
 boo:=(h.cell hm 73).trans (Tb.gt ok 1)
 flo:=(h.cell hm 74).trans (Tb.gt ok 2)
 all:=fun j u hj=>by rw[Nat.zero_add,h.cell hm j];simpa using hj
 st0:=(h.cell hm 0).trans ((Tb.g0 ok 0 (by omega)).trans (Slt.at0 _))
 st1:=(h.cell hm 36).trans ((Tb.g1 ok 0 (by omega)).trans (Slt.at0 _))
theorem jt (n:Int) (w:World):Calls Tryz.prog 117 #[.int .i64 n] w fun e w'=>e=.returned (.bool (ixB n))∧w=w':=by
 unfold ixB
 by_cases h0:n=0
 ·have b0:(n==0)=true:=by simpa using h0
  clear h0
  go_enter Tryz.func117,Tryz.ntmps117
  go_wp2_with fail;go_ret;exact⟨by rw[b0];rfl,rfl⟩
 ·have b0:(n==0)=false:=by simpa using h0
  clear h0
  go_enter Tryz.func117,Tryz.ntmps117
  go_wp2_with fail;go_ret;exact⟨by rw[b0];rfl,rfl⟩
theorem b_has (n:Int) (w:World):Calls Tryz.prog 99 #[.int .i64 n] w fun e w'=>e=.returned (.bool (ixB n))∧w=w':=by
 unfold ixB
 by_cases h0:n=0
 ·have b0:(n==0)=true:=by simpa using h0
  clear h0
  go_enter Tryz.func99,Tryz.ntmps99
  go_wp2_with fail;go_ret;exact⟨by rw[b0];rfl,rfl⟩
 ·have b0:(n==0)=false:=by simpa using h0
  clear h0
  go_enter Tryz.func99,Tryz.ntmps99
  go_wp2_with fail;go_ret;exact⟨by rw[b0];rfl,rfl⟩
end
end

section
set_option linter.unusedVariables false
set_option linter.unusedSimpArgs false
open Go.RowKit Go.Lib Go.Deep
section
variable {W w:World} {J:Nat→Option Obj} {t:Tb} {F:List (Nat × Obj)}
theorem tb_right (t:Tb) (ok:t.Ok) (h:St W w J F):Calls Tryz.prog 92 #[t.val] w fun e w'=>e=.returned (.bool (zx t))∧St W w' J F:=by
 have h1:=h.alloc (.cells t.cells 29);obtain⟨g,hg⟩:∃g,w.heap.size=g:=⟨_,rfl⟩;rw[hg]at h1
 have ft:=fun(v:World) (hv:St W v J ((g,.cells t.cells 29 (0,0))::F))=>hv.tb ok (List.mem_cons_self ..)
 have k0:=fun(v:World) (hv:St W v J ((g,.cells t.cells 29 (0,0))::F))=>jq t.s0 ok.s0 hv
 have k1:=fun(v:World) (hv:St W v J ((g,.cells t.cells 29 (0,0))::F))=>jq t.s1 ok.s1 hv
 obtain⟨V,hV⟩:∃V,zx t=V:=⟨_,rfl⟩;rw[hV];unfold zx at hV;obtain⟨R0,hR0⟩:∃R,rightS t.s0=R:=⟨_,rfl⟩;obtain⟨R1,hR1⟩:∃R,rightS t.s1=R:=⟨_,rfl⟩;rw[hR0]at k0 hV;rw[hR1]at k1 hV;have i0:=zl ok.s0.dig;have i1:=zl ok.s1.dig;have f0:=ok.f0;have f1:=ok.f1
 have ft2:∀v,St W v J ((g,.cells t.cells 29 (0,0))::F)→v.rangeAt g 0 t.s0.cells.toList∧v.rangeAt g 36 t.s1.cells.toList∧v.cell? ⟨g,72,none⟩=some (.int .i64 t.act)∧v.cell? ⟨g,73,none⟩=some (.int .i64 t.boo)∧v.cell? ⟨g,74,none⟩=some (.int .u64 t.flo)∧v.rangeAt g 0 t.cells.toList∧True∧True:=fun v hv=>let x:=ft v hv;⟨x.s0,x.s1,x.act,x.boo,x.flo,x.all,trivial,trivial⟩
 clear ft hR0 hR1 ok h;obtain⟨s0,s1,AC,BO,FL⟩:=t;simp only at *;unfold Slt.val at k0 k1;unfold Tb.val;obtain⟨S0,hS0⟩:∃S,s0.cells=S:=⟨_,rfl⟩;obtain⟨S1,hS1⟩:∃S,s1.cells=S:=⟨_,rfl⟩;rw[hS0]at ft2 k0 i0;rw[hS1]at ft2 k1 i1;obtain⟨C,hC⟩:∃C,(⟨s0,s1,AC,BO,FL⟩:Tb).cells=C:=⟨_,rfl⟩;rw[hC]at h1 ft2 k0 k1 ⊢;clear hS0 hS1 hC;obtain⟨IA,hIA⟩:∃B,ixB AC=B:=⟨_,rfl⟩;obtain⟨IB,hIB⟩:∃B,ixB BO=B:=⟨_,rfl⟩;rw[hIA,hIB]at hV;obtain⟨q0,-,d72,d73,d74,-,-,-⟩:=ft2 _ h1;have FT:=za ft2;have KS0:=za k0;have KS1:=za k1;have I0:=za i0;have I1:=za i1;have H1:=za h1;have HV:=za hV;have Q0:=za q0;have HIA:=za hIA;have HIB:=za hIB;clear ft2 k0 k1 i0 i1 h1 hV q0 hIA hIB
 cases R0 with
 | false=>
  have HE:Hid (V=false):=za (by rw[←HV.out];simp)
  go_enter Tryz.func92,Tryz.ntmps92
  go_wp2_with (first|(with_reducible refine zb 5 rfl (by kernel_rfl) 26 (.tmp 4) rfl g 0 rfl S0 _ Q0.out Tryz.underlying26 rfl I0.out ?_)|(go_at_call 116;(with_reducible refine(KS0.out _ H1.out).mono ?_);rintro e w2 ⟨rfl,h2⟩;obtain⟨-,q1,d72,d73,d74,-,-,-⟩:=FT.out _ h2;have Q1:=za q1;have H2:=za h2;clear h2 q1))
  go_ret;exact⟨congrArg (fun b=>Ending.returned (Value.bool b)) HE.out.symm,H2.out.weaken (A:=[_])⟩
 | true=>
  cases R1 with
  | false=>
   have HE:Hid (V=false):=za (by rw[←HV.out];simp)
   go_enter Tryz.func92,Tryz.ntmps92
   go_wp2_with (first|(with_reducible refine zb 5 rfl (by kernel_rfl) 26 (.tmp 4) rfl g 0 rfl S0 _ Q0.out Tryz.underlying26 rfl I0.out ?_)|(with_reducible refine zb 10 rfl (by kernel_rfl) 26 (.tmp 9) rfl g 36 rfl S1 _ Q1.out Tryz.underlying26 rfl I1.out ?_)|(go_at_call 116;(with_reducible refine(KS0.out _ H1.out).mono ?_);rintro e w2 ⟨rfl,h2⟩;obtain⟨-,q1,d72,d73,d74,-,-,-⟩:=FT.out _ h2;have Q1:=za q1;have H2:=za h2;clear h2 q1)|(go_at_call 116;(with_reducible refine(KS1.out _ H2.out).mono ?_);rintro e w3 ⟨rfl,h3⟩;obtain⟨-,-,e72,e73,e74,-,-,-⟩:=FT.out _ h3;have H3:=za h3;clear h3))
   go_ret;exact⟨congrArg (fun b=>Ending.returned (Value.bool b)) HE.out.symm,H3.out.weaken (A:=[_])⟩
  | true=>
   cases IA with
   | false=>
    have HE:Hid (V=false):=za (by rw[←HV.out];simp)
    go_enter Tryz.func92,Tryz.ntmps92
    go_wp2_with (first|(with_reducible refine zb 5 rfl (by kernel_rfl) 26 (.tmp 4) rfl g 0 rfl S0 _ Q0.out Tryz.underlying26 rfl I0.out ?_)|(with_reducible refine zb 10 rfl (by kernel_rfl) 26 (.tmp 9) rfl g 36 rfl S1 _ Q1.out Tryz.underlying26 rfl I1.out ?_)|(go_at_call 116;(with_reducible refine(KS0.out _ H1.out).mono ?_);rintro e w2 ⟨rfl,h2⟩;obtain⟨-,q1,d72,d73,d74,-,-,-⟩:=FT.out _ h2;have Q1:=za q1;have H2:=za h2;clear h2 q1)|(go_at_call 116;(with_reducible refine(KS1.out _ H2.out).mono ?_);rintro e w3 ⟨rfl,h3⟩;obtain⟨-,-,e72,e73,e74,-,-,-⟩:=FT.out _ h3;have H3:=za h3;clear h3)|(go_at_call 117;(with_reducible refine(jt AC _).mono ?_);rintro e w4 ⟨rfl,rfl⟩;rw[HIA.out]))
    go_ret;exact⟨congrArg (fun b=>Ending.returned (Value.bool b)) HE.out.symm,H3.out.weaken (A:=[_])⟩
   | true=>
    by_cases hb:BO=-1
    ·have b1:(BO==-1)=true:=by simpa using hb
     have hv:=HV.out;rw[b1]at hv;simp only[Bool.true_and,Bool.false_or,Bool.true_or]at hv;have HE:=za hv;clear hv
     go_enter Tryz.func92,Tryz.ntmps92
     go_wp2_with (first|(with_reducible refine zb 5 rfl (by kernel_rfl) 26 (.tmp 4) rfl g 0 rfl S0 _ Q0.out Tryz.underlying26 rfl I0.out ?_)|(with_reducible refine zb 10 rfl (by kernel_rfl) 26 (.tmp 9) rfl g 36 rfl S1 _ Q1.out Tryz.underlying26 rfl I1.out ?_)|(go_at_call 116;(with_reducible refine(KS0.out _ H1.out).mono ?_);rintro e w2 ⟨rfl,h2⟩;obtain⟨-,q1,d72,d73,d74,-,-,-⟩:=FT.out _ h2;have Q1:=za q1;have H2:=za h2;clear h2 q1)|(go_at_call 116;(with_reducible refine(KS1.out _ H2.out).mono ?_);rintro e w3 ⟨rfl,h3⟩;obtain⟨-,-,e72,e73,e74,-,-,-⟩:=FT.out _ h3;have H3:=za h3;clear h3)|(go_at_call 117;(with_reducible refine(jt AC _).mono ?_);rintro e w4 ⟨rfl,rfl⟩;rw[HIA.out]))
     go_ret;exact⟨congrArg (fun b=>Ending.returned (Value.bool b)) HE.out,H3.out.weaken (A:=[_])⟩
    ·have b1:(BO==-1)=false:=by simpa using hb
     cases IB with
     | false=>
      have HE:Hid (V=false):=za (by rw[←HV.out];simp[b1])
      go_enter Tryz.func92,Tryz.ntmps92
      go_wp2_with (first|(with_reducible refine zb 5 rfl (by kernel_rfl) 26 (.tmp 4) rfl g 0 rfl S0 _ Q0.out Tryz.underlying26 rfl I0.out ?_)|(with_reducible refine zb 10 rfl (by kernel_rfl) 26 (.tmp 9) rfl g 36 rfl S1 _ Q1.out Tryz.underlying26 rfl I1.out ?_)|(go_at_call 116;(with_reducible refine(KS0.out _ H1.out).mono ?_);rintro e w2 ⟨rfl,h2⟩;obtain⟨-,q1,d72,d73,d74,-,-,-⟩:=FT.out _ h2;have Q1:=za q1;have H2:=za h2;clear h2 q1)|(go_at_call 116;(with_reducible refine(KS1.out _ H2.out).mono ?_);rintro e w3 ⟨rfl,h3⟩;obtain⟨-,-,e72,e73,e74,-,-,-⟩:=FT.out _ h3;have H3:=za h3;clear h3)|(go_at_call 117;(with_reducible refine(jt AC _).mono ?_);rintro e w4 ⟨rfl,rfl⟩;rw[HIA.out])|(go_at_call 117;(with_reducible refine(jt BO _).mono ?_);rintro e w4 ⟨rfl,rfl⟩;rw[HIB.out]))
      go_ret;exact⟨congrArg (fun b=>Ending.returned (Value.bool b)) HE.out.symm,H3.out.weaken (A:=[_])⟩
     | true=>
      have hv:=HV.out;rw[b1]at hv;simp only[Bool.true_and,Bool.false_or,Bool.true_or]at hv;have HE:=za hv;clear hv
      go_enter Tryz.func92,Tryz.ntmps92
      go_wp2_with (first|(with_reducible refine zb 5 rfl (by kernel_rfl) 26 (.tmp 4) rfl g 0 rfl S0 _ Q0.out Tryz.underlying26 rfl I0.out ?_)|(with_reducible refine zb 10 rfl (by kernel_rfl) 26 (.tmp 9) rfl g 36 rfl S1 _ Q1.out Tryz.underlying26 rfl I1.out ?_)|(go_at_call 116;(with_reducible refine(KS0.out _ H1.out).mono ?_);rintro e w2 ⟨rfl,h2⟩;obtain⟨-,q1,d72,d73,d74,-,-,-⟩:=FT.out _ h2;have Q1:=za q1;have H2:=za h2;clear h2 q1)|(go_at_call 116;(with_reducible refine(KS1.out _ H2.out).mono ?_);rintro e w3 ⟨rfl,h3⟩;obtain⟨-,-,e72,e73,e74,-,-,-⟩:=FT.out _ h3;have H3:=za h3;clear h3)|(go_at_call 117;(with_reducible refine(jt AC _).mono ?_);rintro e w4 ⟨rfl,rfl⟩;rw[HIA.out])|(go_at_call 117;(with_reducible refine(jt BO _).mono ?_);rintro e w4 ⟨rfl,rfl⟩;rw[HIB.out]))
      go_ret;exact⟨congrArg (fun b=>Ending.returned (Value.bool b)) HE.out,H3.out.weaken (A:=[_])⟩
end
end

section
set_option linter.unusedVariables false
open Go.RowKit
section
variable {P:Program} {ops:Array Oper} {Q:Exit→Act→World→Prop} {md:Region.Mode} {S:World→Prop}
def tkB (md:Region.Mode) (ops:Array Oper) (listed:Array Bool) (i:Nat):Bool:=Region.noSelect ops&&(Region.free md ops listed i&&(Region.ready md ops listed).contains i)
theorem tk {i:Nat} {oi:Oper} {v:Value} {fuel:Nat} {listed:Array Bool} {a:Act} {w:World} (hi:ops[i]?=some oi) (hb:tkB md ops listed i=true)
  (hy:YieldsIf P ops S oi v a) (hS:S w) (h:wpAnyH P md ops Q S fuel (listed.setIfInBounds i true) (a.put oi.dst v) w)
  (hQ:∀c a w,Q (.panic c) (a.put oi.dst v) w→Q (.panic c) a w):wpAnyH P md ops Q S (fuel+1) listed a w:=by
 simp only[tkB,Bool.and_eq_true]at hb;exact wpAnyH_take hi hb.1 hb.2.1 hb.2.2 hQ hy hS h
theorem ya {o:Oper} {v:Value} {a:Act} (hw:Region.wanted o (yielded ops a.tmps)=true) (h:∀w,S w→(execOp a.eval o).run P w=.ok (.value v) w):YieldsIf P ops S o v a:=.inl ⟨hw,h⟩
theorem rd1 {i:Nat} {o:Oper} {fuel:Nat} {listed:Array Bool} {a:Act} {w:World} (ho:ops[i]?=some o) (hr:Region.ready md ops listed=[i])
  (h:∀K':Act→World→Prop,Shut (∀a w,S w→(S w→wpAnyH P md ops Q S fuel (listed.setIfInBounds i true) a w)→K' a w)→if Region.wanted o (yielded ops a.tmps)=true then Oper.wp P o a w K' Q else K' (a.put o.dst undef) w) :
  wpAnyH P md ops Q S (fuel+1) listed a w:=wpAnyH_ready hr (by simp) (AllReadyH.cons ho h AllReadyH.nil)
theorem rds {i:Nat} {rs:List Nat} {fuel:Nat} {listed:Array Bool} {a:Act} {w:World} (hr:Region.ready md ops listed=i::rs)
  (h:AllReadyH P md ops Q S fuel listed a w (i::rs)):wpAnyH P md ops Q S (fuel+1) listed a w:=wpAnyH_ready hr (by simp) h
end
theorem pu1 {α:Type} {l:List α} {i:Nat} {x:α}:l.toArray.setIfInBounds i x=(l.set i x).toArray:=List.setIfInBounds_toArray ..
theorem pu2 {α:Type} {l:List α} {x y:α}:(y::l).set 0 x=x::l:=rfl
theorem pu3 {α:Type} {l:List α} {i:Nat} {x y:α}:(y::l).set (i+1) x=y::l.set i x:=rfl
section
variable {l:List Oper} {x0 x1 x2 x3 x4 x5 x6 x7 x8 x9:Oper}
theorem op0:(x0::l).toArray[0]?=some x0:=rfl
theorem op1:(x0::x1::l).toArray[1]?=some x1:=rfl
theorem op2:(x0::x1::x2::l).toArray[2]?=some x2:=rfl
theorem op3:(x0::x1::x2::x3::l).toArray[3]?=some x3:=rfl
theorem op4:(x0::x1::x2::x3::x4::l).toArray[4]?=some x4:=rfl
theorem op5:(x0::x1::x2::x3::x4::x5::l).toArray[5]?=some x5:=rfl
theorem op6:(x0::x1::x2::x3::x4::x5::x6::l).toArray[6]?=some x6:=rfl
theorem op7:(x0::x1::x2::x3::x4::x5::x6::x7::l).toArray[7]?=some x7:=rfl
theorem op8:(x0::x1::x2::x3::x4::x5::x6::x7::x8::l).toArray[8]?=some x8:=rfl
theorem op9:(x0::x1::x2::x3::x4::x5::x6::x7::x8::x9::l).toArray[9]?=some x9:=rfl
theorem oq {i:Nat} {o:Oper} (h:l.toArray[i]?=some o):(x0::x1::x2::x3::x4::x5::x6::x7::x8::x9::l).toArray[i+10]?=some o:=by simpa using h
end
end

section
set_option linter.unusedVariables false
set_option linter.unusedSimpArgs false
open Go.RowKit Go.Lib Go.Deep
theorem zax:∀(xs:List Value) (k:Nat) (Z:Array Value),List.foldl (fun cs (x:Value × Nat)=>cs.setIfInBounds x.snd x.fst) Z (xs.zipIdx k)=zg Z k xs
 | [],_,_=>rfl
 | x::xs,k,Z=>by
  rw[List.zipIdx_cons,List.foldl_cons,zax xs (k+1)]
  rfl
theorem yj (X Z:Array Value) (n:Nat) (h:X.size=n) (hz:Z.size=n):Array.foldl (fun cs (x:Value × Nat)=>cs.setIfInBounds x.snd x.fst) Z X.zipIdx 0 n=X:=by
 have e:Array.foldl (fun cs (x:Value × Nat)=>cs.setIfInBounds x.snd x.fst) Z X.zipIdx 0 n=Array.foldl (fun cs (x:Value × Nat)=>cs.setIfInBounds x.snd x.fst) Z X.zipIdx 0 X.zipIdx.size:=by rw[Array.size_zipIdx,h]
 rw[e,←Array.foldl_toList,Array.toList_zipIdx,zax,zd _ _ (by rw[Array.length_toList,h,hz]),Array.toArray_toList]
section
variable {P:Program} {W w:World} {I:Nat→Option Obj} {F:List (Nat × Obj)}
theorem zq {ops:Array Oper} {o:Oper} {a:Act} {K:Act→World→Prop} {Q:Exit→Act→World→Prop} {E:Prop} (hgd:o.guard=none) (ty:TypeId) (x y:Operand) (ho:o.op=.store ty x y) {g off:Nat} (cells:Array Value) (hx:a.eval x=.pointer (some ⟨g,off,none⟩)) (hy:a.eval y=.agg cells)
  {cs:Array Value} {t:TypeId} (hst:St W w I ((g,.cells cs t (0,0))::F)) (hfit:off+cells.size≤cs.size) (hi:(P.info? ty).map (·.size)=some cells.size) (h1:cells.all (·.oneCell')=true)
  (h:∀w',St W w' I ((g,.cells (zg cs off cells.toList) t (0,0))::F)→K (a.put o.dst undef) w'):if Region.wanted o (yielded ops a.tmps)=true then o.wp P a w K Q else E:=by
 rw[if_pos (by simp[Region.wanted,hgd])];exact wp_store_mid ty x y ho g off cells hx hy (fun j hj=>⟨by rw[hst.cell (g:=g) (cs:=cs) (t:=t) (fr:=(0,0)) (by simp)];simp;omega,hst.frozen (g:=g) (cs:=cs) (t:=t) (by simp) _⟩) hi h1 (h _ (St.setCells _ _ _ _ hst))
end
theorem zview:Tryz.zeroCells161.size=75:=by kernel_rfl
theorem qu:Tryz.zeroCells29.size=75:=by kernel_rfl
section
variable {W w:World} {J:Nat→Option Obj} {t:Tb} {F:List (Nat × Obj)}
theorem zbg (t:Tb) (ok:t.Ok) (h:St W w J F):Calls Tryz.prog 98 #[t.val] w fun e w'=>e=.returned (.tuple #[t.val,.bool (zx t)])∧St W w' J F:=by
 have h1:=(h.alloc (.cells t.cells 29)).alloc (.cells Tryz.zeroCells161 161);obtain⟨g,hg⟩:∃g,w.heap.size=g:=⟨_,rfl⟩;rw[World.size_alloc,hg]at h1
 have kR:=fun(v:World) (X:List (Nat × Obj)) (hv:St W v J X)=>tb_right t ok hv
 obtain⟨V,hV⟩:∃V,zx t=V:=⟨_,rfl⟩;rw[hV]at kR ⊢;have hsz:=Tb.size ok;have hin:=z7 ok;have hvi:=u6 ok;have hone:=t.one;unfold Tb.val at kR ⊢;obtain⟨C,hC⟩:∃C,t.cells=C:=⟨_,rfl⟩;rw[hC]at h1 kR hsz hin hvi hone ⊢;have hfold:Array.foldl (fun cs (x:Value × Nat)=>cs.setIfInBounds x.snd x.fst) Tryz.zeroCells161 C.zipIdx 0 75=C:=yj C _ 75 hsz zview
 have hfit:0+C.size≤(Tryz.zeroCells161).size:=by rw[hsz,zview];omega
 have hmany:zg Tryz.zeroCells161 0 C.toList=C:=by rw[zd _ _ (by rw[Array.length_toList,hsz,zview]),Array.toArray_toList]
 have HTA:Hid ((Tryz.prog.info? 29).map (·.size)=some C.toList.length):=za (by rw[hin,Array.length_toList]);have HUT:=za Tryz.underlying29;have H1:=za h1;have KR:=za kR;have HVI:=za hvi;have HONE:=za hone;have HFOLD:=za hfold;have HFIT:=za hfit;have HMANY:=za hmany;clear h h1 kR hin hvi hone hfold hfit hmany hV hC ok
 go_enter Tryz.func98,Tryz.ntmps98
 go_wp2_with fail
 have hrg:∀(v:World) (X:List (Nat × Obj)),St W v J X→(g,Obj.cells C 29 (0,0))∈X→v.rangeAt g 0 C.toList:=fun v X hv hm j u hj=>by
  rw[Nat.zero_add,hv.cell hm j];simpa using hj
 have HRG:=za hrg;have HDW:=za H1.out.drew1;clear hrg;refine wp_region_held_drew (S:=fun v=>v.rangeAt g 0 C.toList) (by kernel_rfl) (HRG.out _ _ HDW.out (by simp)) (fun hHeld=>?_)
 refine tk op0 (v:=?_) (by kernel_rfl) ?_ (by assumption) ?_ fun _ _ _ h=>h
 rotate_left
 ·(((refine yieldsIf_load_mid ?_ 29 (.tmp 1) ?_ g 0 ?_ C.toList _ ?_ HUT.out ?_ HTA.out)<;>first|rfl|exact fun w h=>h))
 try simp only[Act.put,pu1,pu2,pu3]
 try simp only[Array.toArray_toList,HFOLD.out]
 refine tk op1 (v:=?_) (by kernel_rfl) ?_ (by assumption) ?_ fun _ _ _ h=>h
 rotate_left
 ·(refine ya rfl fun w hSw=>?_;(try dsimp only at hSw);go_simp;try with_reducible rfl)
 try simp only[Act.put,pu1,pu2,pu3]
 try simp only[Array.toArray_toList,HFOLD.out]
 refine tk op2 (v:=?_) (by kernel_rfl) ?_ (by assumption) ?_ fun _ _ _ h=>h
 rotate_left
 ·(((refine yieldsIf_load_mid ?_ 29 (.tmp 1) ?_ g 0 ?_ C.toList _ ?_ HUT.out ?_ HTA.out)<;>first|rfl|exact fun w h=>h))
 try simp only[Act.put,pu1,pu2,pu3]
 try simp only[Array.toArray_toList,HFOLD.out]
 refine rd1 op3 (by kernel_rfl) fun K hK=>?_
 go_simp
 ((go_at_call 92;(with_reducible refine(KR.out _ _ HDW.out).mono ?_);rintro e wx ⟨rfl,hx⟩;dsimp only))
 refine hK.out _ _ ?_ fun hHeld=>?_
 ·(try dsimp only)<;>((exact HRG.out _ _ hx (by simp)))
 clear hK K
 try simp only[Act.put,pu1,pu2,pu3]
 try simp only[Array.toArray_toList,HFOLD.out]
 refine rd1 op4 (by kernel_rfl) fun K hK=>?_
 ((refine zq rfl 161 (.tmp 2) (.tmp 5) rfl (g:=g+1) (off:=0) C rfl rfl hx HFIT.out HVI.out HONE.out ?_;intro w8 h8;rw[HMANY.out]at h8;dsimp only))
 refine hK.out _ _ ?_ fun hHeld=>?_
 ·(try dsimp only)<;>((exact HRG.out _ _ h8 (by simp)))
 clear hK K
 try simp only[Act.put,pu1,pu2,pu3]
 try simp only[Array.toArray_toList,HFOLD.out]
 refine tk op5 (v:=?_) (by kernel_rfl) ?_ (by assumption) ?_ fun _ _ _ h=>h
 rotate_left
 ·(refine ya rfl fun w hSw=>?_;(try dsimp only at hSw);go_simp;try with_reducible rfl)
 try simp only[Act.put,pu1,pu2,pu3]
 try simp only[Array.toArray_toList,HFOLD.out]
 refine wpAnyH_done (by kernel_rfl) ?_ _;have HZ:=za h8;clear h8 hx HDW H1;go_wp2_with fail;refine bodyPost_ret (zr rfl _ _ (g+1) 161 C (0,0) _ _ rfl rfl (HZ.out.own (g+1,.cells C 161 (0,0)) (List.mem_cons_self ..)) Tryz.underlying161 (by kernel_rfl) HVI.out) rfl ?_;exact⟨rfl,HZ.out.weaken (A:=[_,_])⟩
end
end

section
set_option linter.unusedVariables false
set_option linter.unusedSimpArgs false
open Go.RowKit Go.Lib Go.Deep
theorem zp {P:Program} {fn:Func} {p:Tmp} {ty:TypeId} (h:fn.results=#[.cell p ty]) (tmps:Array Value) (w:World) (g:Nat) (t:TypeId) (cs:Array Value) (fr:Nat × Nat) (d:TypeDesc)
  (hp:tmps.getD p undef=.pointer (some ⟨g,0,none⟩)) (hg:w.heap[g]?=some (.cells cs t fr))
  (hu:P.underlying ty=some d) (hd:(match d with | .struct _ | .array _ _=>true|_=>false)=true) (hi:(P.info? ty).map (·.size)=some cs.size) :
  (results fn tmps).run P w=.ok (.agg cs) w:=by
 have hp':tmps[p]?.getD undef=.pointer (some ⟨g,0,none⟩):=by simpa using hp
 simp[results,h,hp',asAddr,run_loadVar_row w g t ty cs fr d hg hu hd hi]
structure Cg where
 kind:Int
 slot:Int
 n:Int
 tos:Slt
 ver:Int
structure Cg.Ok (c:Cg):Prop where
 k0:-9223372036854775808≤c.kind
 k1:c.kind≤9223372036854775807
 s0:-9223372036854775808≤c.slot
 s1:c.slot≤9223372036854775807
 n0:-9223372036854775808≤c.n
 n1:c.n≤9223372036854775807
 tos:c.tos.Ok
 v0:0≤c.ver
 v1:c.ver≤18446744073709551615
def Cg.cells (c:Cg):Array Value:=([Value.int .i64 c.kind,.int .i64 c.slot,.int .i64 c.n]++(c.tos.cells.toList++[Value.int .u64 c.ver])).toArray
def Cg.val (c:Cg):Value:=.agg c.cells
def cgs (l:List Cg):List Value:=l.flatMap fun c=>c.cells.toList
def setC (i:Int) (s:Slt):Cg:=⟨1,i,0,s,0⟩
def actC (i:Int):Cg:=⟨2,0,i,zS,0⟩
def booC (i:Int):Cg:=⟨3,0,i,zS,0⟩
def floC (v:Int):Cg:=⟨4,0,0,zS,v⟩
section
variable {c:Cg}
theorem Cg.size (ok:c.tos.Ok):c.cells.size=40:=by
 have h:=ok.len
 simp[Cg.cells,h]
theorem Cg.gm (ok:c.tos.Ok) (j:Nat) (hj:j < 36):c.cells[3+j]?=c.tos.cells[j]?:=by
 have h:=ok.len;unfold Cg.cells;rw[List.getElem?_toArray,List.getElem?_append_right (by simp),List.getElem?_append_left (by simp;omega)]
 simp
theorem Cg.g39 (ok:c.tos.Ok):c.cells[39]?=some (.int .u64 c.ver):=by
 have h:=ok.len;unfold Cg.cells;rw[List.getElem?_toArray,List.getElem?_append_right (by simp),List.getElem?_append_right (by simp;omega)]
 simp[h]
theorem Cg.one (c:Cg):c.cells.all (·.oneCell')=true:=by
 have h0:c.tos.cells.toList.all (·.oneCell')=true:=by rw[←c.tos.one];simp
 unfold Cg.cells;rw[List.all_toArray,List.all_append,List.all_append,h0]
 rfl
theorem k8 (ok:c.tos.Ok):(Tryz.prog.info? 147).map (·.size)=some c.cells.size:=by rw[Cg.size ok];kernel_rfl
end
theorem yx (i:Int) (s:Slt) (ok:s.Ok) (w:World):(Instr.build 147 #[(0,.int .i64 1),(1,.int .i64 i),(3,.agg s.cells)]).run Tryz.prog w=.ok (.agg (setC i s).cells) w:=by
 obtain⟨st,tr,ver,sz,ds⟩:=s;obtain⟨d0,d1,d2,d3,d4,d5,d6,d7,d8,d9,d10,d11,d12,d13,d14,d15,d16,d17,d18,d19,d20,d21,d22,d23,d24,d25,d26,d27,d28,d29,d30,d31,rfl⟩:=jv ds ok.dig;exact run_build w _ _ _ (by kernel_rfl)
theorem zh {P:Program} {w:World} {ops:Array Oper} {rest:List Oper} {o:Oper} {a:Act} {Q:Exit→Act→World→Prop} (hgd:o.guard=none) (t:TypeId) (ps:Array (Nat × Operand)) (ho:o.op=.build t ps)
  (vs:Array (Nat × Value)) (hvs:(ps.map fun(i,x)=>(i,a.eval x))=vs) {v:Value} (hr:(Instr.build t vs).run P w=.ok v w) (h:wpList P ops Q rest (a.put o.dst v) w):wpList P ops Q (o::rest) a w:=by
 refine wpList_plain hgd fun K hK=>?_
 subst hvs;unfold Oper.wp execOp;simp only[ho,Sem.run_bind,hr,Result.andThen_ok];exact hK _ _ h
theorem zcg_lit:(⟨0,0,0,zS,0⟩:Cg).cells=zbi:=rfl
section
variable {W w:World} {J:Nat→Option Obj} {t:Tb} {F:List (Nat × Obj)}
theorem b_set (i:Int) (s:Slt) (ok:s.Ok) (h:St W w J F):Calls Tryz.prog 101 #[.int .i64 i,s.val] w fun e w'=>e=.returned (setC i s).val∧St W w' J F:=by
 have h1:=(h.alloc (.cells s.cells 26)).alloc (.cells (⟨0,0,0,zS,0⟩:Cg).cells 147);obtain⟨g,hg⟩:∃g,w.heap.size=g:=⟨_,rfl⟩;rw[World.size_alloc,hg,zcg_lit]at h1;have hin:=zl ok.dig;have hb:=yx i s ok;have hci:=k8 (c:=setC i s) ok;have hsz:=Cg.size (c:=setC i s) ok;have hone:=Cg.one (setC i s);unfold Slt.val Cg.val;obtain⟨S,hS⟩:∃S,s.cells=S:=⟨_,rfl⟩;obtain⟨C,hC⟩:∃C,(setC i s).cells=C:=⟨_,rfl⟩;rw[hS]at h1 hin hb ⊢;rw[hC]at hb hci hsz hone ⊢
 have hfit:0+C.size≤zbi.size:=by rw[hsz];decide
 have hmany:zg zbi 0 C.toList=C:=by rw[zd _ _ (by rw[Array.length_toList,hsz];rfl),Array.toArray_toList]
 have hrg:((w.alloc (.cells S 26)).alloc (.cells zbi 147)).rangeAt g 0 S.toList:=fun j u hj=>by
  rw[Nat.zero_add,h1.cell (g:=g) (cs:=S) (t:=26) (fr:=(0,0)) (by simp) j];simpa using hj
 have H1:=za h1;have HIN:=za hin;have HB:=za hb;have HCI:=za hci;have HONE:=za hone;have HFIT:=za hfit;have HMANY:=za hmany;have HRG:=za hrg;clear h h1 hin hb hci hsz hone hfit hmany hrg hS hC ok
 go_enter Tryz.func101,Tryz.ntmps101
 go_wp2_with (first|(with_reducible refine zb 6 rfl (by kernel_rfl) 26 (.tmp 3) rfl g 0 rfl S _ HRG.out Tryz.underlying26 rfl HIN.out ?_)|(with_reducible refine zh rfl 147 _ rfl _ ?_ (HB.out _) ?_;·go_simp)|(with_reducible refine zc rfl 147 (.tmp 4) (.tmp 7) rfl (g:=g+1) (off:=0) C rfl rfl H1.out HFIT.out HCI.out HONE.out ?_;intro w9 h9;rw[HMANY.out]at h9;have H9:=za h9;clear h9))
 refine bodyPost_ret (zp rfl _ _ (g+1) 147 C (0,0) _ rfl (H9.out.own (g+1,.cells C 147 (0,0)) (List.mem_cons_self ..)) Tryz.underlying147 (by kernel_rfl) HCI.out) rfl ?_;exact⟨rfl,H9.out.weaken (A:=[_,_])⟩
end
end
end Go.Proofs.YtnjnooeldkideaaGreatDoor
