/- order: the table that is known. boot: all that it makes are changes of the four forms, few of them: plain Lean. order: is a name among the model's? call: what is known of one; as text and back: in plain Lean. -/
import Derived.Test.YtnjnooeldkideaaGreatDoorMOrI
import Derived.Test.YtnjnooeldkideaaGreatDoorShelf
import Derived.Test.YtnjnooeldkideaaGreatDoorMParts
namespace Go.Proofs.YtnjnooeldkideaaGreatDoor
set_option maxRecDepth 100000
set_option maxHeartbeats 4000000
section
set_option linter.unusedVariables false
set_option linter.unusedSimpArgs false
open Go.RowKit Go.Lib Go.Deep
section
variable {W w:World} {J:Nat→Option Obj} {t:Tb} {F:List (Nat × Obj)}
theorem o_table {m:Md} {nv:Value} {gm:Nat} (ok:m.Ok) (h:St W w J F) (hm:(gm,Obj.cells (m.cells nv) 88 (0,0))∈F):Calls Tryz.prog 24 #[.pointer (some ⟨gm,0,none⟩)] w fun e w'=>e=.returned m.known.val∧St W w' J F:=by
 have h1:=h.alloc (.cells Tryz.zeroCells29 29);obtain⟨g,hg⟩:∃g,w.heap.size=g:=⟨_,rfl⟩;rw[hg]at h1;have rk:=(h1.md ok (List.mem_cons_of_mem _ hm)).tb.all;have ti:=z7 ok.known;have ts:=Tb.size ok.known;have tone:=m.known.one;unfold Tb.val;obtain⟨C,hC⟩:∃C,m.known.cells=C:=⟨_,rfl⟩;rw[hC]at rk ti ts tone ⊢
 have rfit:0+C.size≤Tryz.zeroCells29.size:=by rw[ts,qu];omega
 have rmany:zg Tryz.zeroCells29 0 C.toList=C:=by rw[zd _ _ (by rw[Array.length_toList,ts,qu]),Array.toArray_toList]
 have RK:=za rk;have TI:=za ti;have TONE:=za tone;have H1:=za h1;have RFIT:=za rfit;have RMANY:=za rmany;clear h h1 hm rk ti ts tone rfit rmany hC ok
 go_enter Tryz.func24,Tryz.ntmps24
 go_wp2_with (first|(with_reducible refine zb 6 rfl (by kernel_rfl) 29 (.tmp 5) rfl gm 0 rfl C _ RK.out Tryz.underlying29 rfl TI.out ?_)|(with_reducible refine zc rfl 29 (.tmp 2) (.tmp 6) rfl (g:=g) (off:=0) C rfl rfl H1.out RFIT.out TI.out TONE.out ?_;intro w4 h4;refine Hid.out ?_))
 refine za ?_;rw[RMANY.out]at h4;have HZ:=za h4;clear h4 H1 RK;go_wp2_with fail;refine bodyPost_ret (zp rfl _ _ g 29 C (0,0) _ rfl (HZ.out.own (g,.cells C 29 (0,0)) (List.mem_cons_self ..)) Tryz.underlying29 (by kernel_rfl) TI.out) rfl ?_;exact⟨rfl,HZ.out.weaken (A:=[_])⟩
end
end

section
set_option linter.unusedVariables false
set_option linter.unusedSimpArgs false
open Go.RowKit Go.Lib Go.Deep
section
variable {W w:World} {J:Nat→Option Obj} {t:Tb} {F:List (Nat × Obj)}
theorem uw (ok:t.Ok):(∀c∈(planT t).2,FormC c)∧(planT t).2.length≤8:=by
 unfold planT
 split
 ·rename_i hc
  obtain⟨h1,h2⟩:=hc;have hp:pickT t=0∨pickT t=1:=(u3 h1).resolve_left h2
  have p0:-9223372036854775808≤pickT t:=by omega
  have p1:pickT t≤9223372036854775807:=by omega
  have g1:=un (s:=t.at_ t.act);have g2:=zaa (t.at_ok ok (pickT t));simp only;generalize (badS (t.at_ t.act)).1=gs at *;generalize (tryS (t.at_ (pickT t))).1=ts at *;generalize ((t.at_ t.act).st==2)=B1;generalize ((t.at_ (pickT t)).st==2)=B2;generalize pickT t=p at *;unfold planL;have f1:=FormC.set t.act gs ok.a0 ok.a1 g1;have f2:=FormC.set p ts p0 p1 g2;have f3:=FormC.act p p0 p1;have f4:=FormC.boo p p0 p1
  by_cases hpa:p=t.act<;>cases B1<;>cases B2<;>simp[hpa]<;>(try simp only[hpa]at *)<;>(try simp[*])
 ·exact⟨fun c hc=>(by cases hc),by simp⟩
theorem zad (ok:t.Ok):(∀c∈(wipeT t).1,FormC c)∧(wipeT t).1.length≤8:=by
 unfold wipeT
 split
 ·exact⟨fun c hc=>(by cases hc),by simp⟩
 ·have ha : aimT t = -1 ∨ aimT t = 1 - t.act ∧ zx t = true := by
   unfold aimT
   split
   ·rename_i h;exact Or.inr ⟨rfl,h.1⟩
   ·exact Or.inl rfl
  have hb:-9223372036854775808≤aimT t∧aimT t≤9223372036854775807:=by
   rcases ha with ha|⟨ha,hr⟩
   ·omega
   ·have:=jp hr;omega
  exact⟨fun c hc=>(by simp only[List.mem_singleton]at hc;subst hc;exact FormC.set _ _ hb.1 hb.2 (qw 1 (by decide) (by decide))),by simp⟩
theorem ux (ok:t.Ok) (i:Int) (h0:-9223372036854775808≤i) (h1:i≤9223372036854775807):(∀c∈(goodT t i).1,FormC c)∧(goodT t i).1.length≤8:=by
 unfold goodT;have g:=zas (t.at_ok ok i);have f1:=FormC.set i _ h0 h1 g;have f2:=FormC.flo _ g.ver0 g.ver1
 split
 ·split
  ·split
   ·exact⟨fun c hc=>(by simp only[List.mem_cons,List.not_mem_nil,or_false]at hc;rcases hc with rfl|rfl;exact f1;exact f2),by simp⟩
   ·exact⟨fun c hc=>(by simp only[List.mem_singleton]at hc;subst hc;exact f1),by simp⟩
  ·exact⟨fun c hc=>(by cases hc),by simp⟩
 ·exact⟨fun c hc=>(by cases hc),by simp⟩
theorem zae (ok:t.Ok) (i:Int) (h0:-9223372036854775808≤i) (h1:i≤9223372036854775807):(∀c∈(badT t i).1,FormC c)∧(badT t i).1.length≤8:=by
 unfold badT;have g:=un (s:=t.at_ i);have f1:=FormC.set i _ h0 h1 g
 split
 ·rename_i hc
  have hi:=(ul i).1 hc.2;have f2:=FormC.act (1-i) (by omega) (by omega)
  split
  ·split
   ·split
    ·exact⟨fun c hc=>(by simp only[List.mem_cons,List.not_mem_nil,or_false]at hc;rcases hc with rfl|rfl;exact f1;exact f2),by simp⟩
    ·exact⟨fun c hc=>(by simp only[List.mem_singleton]at hc;subst hc;exact f1),by simp⟩
   ·exact⟨fun c hc=>(by cases hc),by simp⟩
  ·exact⟨fun c hc=>(by cases hc),by simp⟩
 ·exact⟨fun c hc=>(by cases hc),by simp⟩
theorem zaf (i:Int) (s:Slt) (sok:s.Ok) (h0:-9223372036854775808≤i) (h1:i≤9223372036854775807):(∀c∈(landT t i s).1,FormC c)∧(landT t i s).1.length≤8:=by
 unfold landT
 split
 ·exact⟨fun c hc=>(by simp only[List.mem_cons,List.not_mem_nil,or_false]at hc;rcases hc with rfl|rfl;exact FormC.set i s h0 h1 sok;exact FormC.act i h0 h1),by simp⟩
 ·exact⟨fun c hc=>(by cases hc),by simp⟩
end
end

section
set_option linter.unusedVariables false
set_option linter.unusedSimpArgs false
open Go.RowKit Go.Lib Go.Deep
section
variable {W w:World} {J:Nat→Option Obj} {t:Tb} {F:List (Nat × Obj)}
def Nms (A:Option Addr) (n c:Nat) (ns:List ByteArray) (L:List (Nat × Obj)):Prop:=Row 9 1 (.slice A n c) n (ns.map Value.string) L
theorem Nms.len {A:Option Addr} {n c:Nat} {ns:List ByteArray} {L:List (Nat × Obj)} (h:Nms A n c ns L):n=ns.length:=by
 have:=h.1
 simpa using this.symm
theorem nm_contains {A:Option Addr} {n c:Nat} {ns:List ByteArray} {L:List (Nat × Obj)} (hr:Nms A n c ns L) (x:ByteArray) (h:St W w J F) (hm:∀p∈L,p∈F) (h63:n≤9223372036854775807) :
  Calls Tryz.prog 95 #[.slice A n c,.string x] w fun e w'=>e=.returned (.bool (Lib.containsS ns x))∧w'=w:=by
 have hl:=hr.len
 by_cases h0:n=0
 ·have:ns=[]:=by rw[h0]at hl;exact List.eq_nil_of_length_eq_zero hl.symm
  subst this;rw[h0];exact(Tryz.slices_Contains_string_empty A c x w).mono (fun e w' q=>⟨by rw[q.1];rfl,q.2⟩)
 ·obtain⟨g,off,cap,cur,hv,hL,-⟩:=hr.cells (j:=0) (u:=.string (ns.getD 0 ByteArray.empty)) (by rw[List.getElem?_map,List.getD_eq_getElem?_getD,List.getElem?_eq_getElem (by omega)];rfl)
  injection hv with e1 e2 e3
  subst e1
  have key:=Tryz.slices_Contains_string g off n c ns x w (by omega) h63 (fun j hj=>by
   obtain⟨g',off',cap',cur',hv',hL',hu⟩:=hr.cells (j:=j) (u:=.string (ns.getD j ByteArray.empty)) (by rw[List.getElem?_map,List.getD_eq_getElem?_getD,List.getElem?_eq_getElem hj];rfl)
   injection hv' with a1 a2 a3
   injection a1 with a1
   injection a1 with a4 a5
   subst a4 a5;have hin:=hm (g,.cells cur' 9 (0,0)) (by rw[hL'];exact List.mem_singleton.2 rfl);rw[h.cell hin (off+j)]
   exact hu)
  rw[hl,List.take_length]at key;rw[hl];exact key
end
end

section
set_option linter.unusedVariables false
set_option linter.unusedSimpArgs false
set_option linter.unnecessarySimpa false
open Go.RowKit Go.Lib
structure Cl where
 client:Int
 kind:Int
 slot:Int
 job:Int
 name:ByteArray
structure Cl.Ok (c:Cl):Prop where
 c0:-9223372036854775808≤c.client
 c1:c.client≤9223372036854775807
 k0:-9223372036854775808≤c.kind
 k1:c.kind≤9223372036854775807
 s0:-9223372036854775808≤c.slot
 s1:c.slot≤9223372036854775807
 j0:-9223372036854775808≤c.job
 j1:c.job≤9223372036854775807
 n1:c.name.size≤1000000000
def empB:ByteArray:=⟨#[]⟩
def Cl.cells (c:Cl):Array Value:=#[.int .i64 c.client,.int .i64 c.kind,.int .i64 c.slot,.int .i64 c.job,.string c.name]
def Cl.val (c:Cl):Value:=.agg c.cells
def zC:Cl:=⟨0,0,0,0,empB⟩
def emp (x:ByteArray):Bool:=x.toList==(⟨#[]⟩:ByteArray).toList
def y3 (c:Cl):Bool:=
 (decide (0≤c.client)&&decide (c.client≤7))&&
 (if c.kind=1 then (c.slot==0&&c.job==0)&&k7 c.name
  else if c.kind=2 then (c.slot==0&&emp c.name)&&(decide (0≤c.job)&&decide (c.job≤1073741824))
  else if c.kind=3∨c.kind=6 then (c.slot==0&&c.job==0)&&emp c.name
  else if c.kind=4∨c.kind=5 then (c.job==0&&emp c.name)&&(decide (0≤c.slot)&&decide (c.slot≤255))
  else false)
end
end Go.Proofs.YtnjnooeldkideaaGreatDoor
