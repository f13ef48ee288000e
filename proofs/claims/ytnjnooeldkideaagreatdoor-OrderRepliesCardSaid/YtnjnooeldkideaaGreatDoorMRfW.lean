/- boot: the document's answers. A region that draws its order, each of whose operations is shown once, whatever came up ahead of it. boot: the document's answers: what may be written. table: the document's answers: what changes can be. -/
import Derived.Test.YtnjnooeldkideaaGreatDoorRfS
import Derived.Test.YtnjnooeldkideaaGreatDoorMOrLd
import Derived.OwnWalk
import Derived.Test.YtnjnooeldkideaaGreatDoorBase
import Derived.Test.YtnjnooeldkideaaGreatDoorMOrDo
import Derived.Deep.RegionHeld3
import Derived.Great.BuildSlice
import Derived.Great.FillDense
import Derived.Test.YtnjnooeldkideaaGreatDoorOrS
namespace Go.Proofs.YtnjnooeldkideaaGreatDoor
set_option maxRecDepth 100000
set_option maxHeartbeats 8000000
section
set_option linter.unusedVariables false
set_option linter.unusedSimpArgs false
open Go.RowKit Go.Lib Go.Deep
section
variable {W w:World} {J:Nat→Option Obj} {t:Tb} {F:List (Nat × Obj)}
theorem ref_pick (ok:t.Ok) (h:St W w J F):Calls Tryz.prog 81 #[t.val] w fun e w'=>e=.returned (.int .i64 (if zx t=true then pickT t else -1))∧St W w' J F:=by
 have h1:=h.alloc (.cells t.cells 29);obtain⟨g,hg⟩:∃g,w.heap.size=g:=⟨_,rfl⟩;rw[hg]at h1
 have kR:=fun(v:World) (X:List (Nat × Obj)) (hv:St W v J X)=>jm t ok hv
 have fx:=fun(v:World) (X:List (Nat × Obj)) (hv:St W v J X) (hx:(g,Obj.cells t.cells 29 (0,0))∈X)=>hv.tb ok hx
 have ti:=z7 ok
 have ixa:zx t=true→t.act=0∨t.act=1:=fun hr=>by
  unfold zx at hr;simp only[Bool.and_eq_true]at hr
  simpa[ixB] using hr.2.2.1
 have k0:=fun(v:World) (X:List (Nat × Obj)) (hv:St W v J X)=>ref_boot t.s0 ok.s0 hv
 have k1:=fun(v:World) (X:List (Nat × Obj)) (hv:St W v J X)=>ref_boot t.s1 ok.s1 hv
 have i0:=yg ok.s0;have i1:=yg ok.s1
 have hD:(if zx t=true then pickT t else -1)=if zx t=true then pickT t else -1:=rfl
 obtain⟨Z,hZ⟩:∃y,(if zx t=true then pickT t else -1)=y:=⟨_,rfl⟩;obtain⟨B0,hB0⟩:∃y,bootS t.s0=y:=⟨_,rfl⟩;obtain⟨B1,hB1⟩:∃y,bootS t.s1=y:=⟨_,rfl⟩;have HD:Hid (Z=if zx t=true then pickT t else -1):=za hZ.symm;rw[hZ];rw[hB0]at k0;rw[hB1]at k1;obtain⟨V,hV⟩:∃y,zx t=y:=⟨_,rfl⟩;rw[hV]at kR ixa HD;unfold Tb.val at *;unfold Slt.val at k0 k1;obtain⟨C,hC⟩:∃C,t.cells=C:=⟨_,rfl⟩;rw[hC]at h1 kR fx ti ⊢;obtain⟨S0,hS0⟩:∃C,t.s0.cells=C:=⟨_,rfl⟩;obtain⟨S1,hS1⟩:∃C,t.s1.cells=C:=⟨_,rfl⟩;rw[hS0]at k0 i0;rw[hS1]at k1 i1;have HS0:=za hS0;have HS1:=za hS1;have FX:Hid (∀v X,St W v J X→(g,Obj.cells C 29 (0,0))∈X→TbAt v g t):=za fx
 have FALL:Hid (∀v X,St W v J X→(g,Obj.cells C 29 (0,0))∈X→v.rangeAt g 0 C.toList):=za fun v X hv hx=>by have q:=(fx v X hv hx).all;rwa [hC]at q
 have H1:=za h1;have KR:=za kR;have K0:=za k0;have K1:=za k1;have TI:=za ti;have I0:=za i0;have I1:=za i1;have IXA:=za ixa;have HB0:=za hB0;have HB1:=za hB1;clear h1 kR k0 k1 fx ti i0 i1 ixa hB0 hB1 hC hS0 hS1 hZ hV hD h
 go_enter Tryz.func81,Tryz.ntmps81
 have QA:=za (FALL.out _ _ H1.out (List.mem_cons_self ..))
 go_wp2_with (with_reducible refine zb 3 rfl (by kernel_rfl) 29 (.tmp 1) rfl g 0 rfl C _ QA.out Tryz.underlying29 rfl TI.out ?_)
 refine(KR.out _ _ H1.out).mono ?_;rintro e w2 ⟨rfl,h2⟩;obtain⟨qs0,qs1,qact,-,-,-,-,-⟩:=FX.out _ _ h2 (List.mem_cons_self ..);rw[HS0.out]at qs0;rw[HS1.out]at qs1;have QS0:=za qs0;have QS1:=za qs1;have H2:=za h2;clear qs0 qs1 h2 H1 QA
 cases V with
 | false=>
  go_wp2_with fail;go_ret;exact⟨by rw[HD.out];rfl,H2.out.weaken (A:=[_])⟩
 | true=>
  rcases IXA.out (by trivial) with hact|hact
  ·have HACT:=za hact
   have ha:t.act=0:=hact;have p0:t.at_ 0=t.s0:=rfl;have p1:t.at_ 1=t.s1:=rfl
   have HD2:Hid (Z=if B0=true then 0 else if B1=true then 1 else -1):=za (by
    rw[HD.out]
    show(if true=true then pickT t else -1)=_
    rw[if_pos rfl];unfold pickT
    rw[ha,show(1:Int)-0=1 from rfl,p0,p1,HB0.out,HB1.out])
   rw[ha]at qact;clear ha hact p0 p1 HD HB0 HB1
   go_wp2_with (with_reducible refine zb 10 rfl (by kernel_rfl) 26 (.tmp 9) rfl g 0 rfl S0 _ QS0.out Tryz.underlying26 rfl I0.out ?_)
   refine(K0.out _ _ H2.out).mono ?_;rintro e w3 ⟨rfl,h3⟩;obtain⟨-,-,q3,-,-,-,-,-⟩:=FX.out _ _ h3 (by simp);have r3:=(FX.out _ _ h3 (by simp)).s1;rw[HS1.out]at r3;have H3:=za h3;have R3:=za r3;clear h3 r3 H2 qact QS0 QS1
   have q4:w3.cell? ⟨g,72,none⟩=some (.int .i64 0):=by rw[FX.out _ _ H3.out (by simp) |>.act];rw[HACT.out]
   clear q3
   cases B0 with
   | true=>
    go_wp2_with fail;go_ret;exact⟨by rw[HD2.out];rfl,H3.out.weaken (A:=[_])⟩
   | false=>
    go_wp2_with (with_reducible refine zb 19 rfl (by kernel_rfl) 26 (.tmp 18) rfl g 36 rfl S1 _ R3.out Tryz.underlying26 rfl I1.out ?_)
    refine(K1.out _ _ H3.out).mono ?_;rintro e w4 ⟨rfl,h4⟩
    have q5:w4.cell? ⟨g,72,none⟩=some (.int .i64 0):=by rw[FX.out _ _ h4 (by simp) |>.act];rw[HACT.out]
    have H4:=za h4;clear h4 H3 q4 R3
    cases B1 with
    | true=>
     go_wp2_with fail;go_ret;exact⟨by rw[HD2.out];rfl,H4.out.weaken (A:=[_])⟩
    | false=>
     go_wp2_with fail;go_ret;exact⟨by rw[HD2.out];rfl,H4.out.weaken (A:=[_])⟩
  ·have HACT:=za hact
   have ha:t.act=1:=hact;have p0:t.at_ 1=t.s1:=rfl;have p1:t.at_ 0=t.s0:=rfl
   have HD2:Hid (Z=if B1=true then 1 else if B0=true then 0 else -1):=za (by
    rw[HD.out]
    show(if true=true then pickT t else -1)=_
    rw[if_pos rfl];unfold pickT
    rw[ha,show(1:Int)-1=0 from rfl,p0,p1,HB1.out,HB0.out])
   rw[ha]at qact;clear ha hact p0 p1 HD HB0 HB1
   go_wp2_with (with_reducible refine zb 10 rfl (by kernel_rfl) 26 (.tmp 9) rfl g 36 rfl S1 _ QS1.out Tryz.underlying26 rfl I1.out ?_)
   refine(K1.out _ _ H2.out).mono ?_;rintro e w3 ⟨rfl,h3⟩;obtain⟨-,-,q3,-,-,-,-,-⟩:=FX.out _ _ h3 (by simp);have r3:=(FX.out _ _ h3 (by simp)).s0;rw[HS0.out]at r3;have H3:=za h3;have R3:=za r3;clear h3 r3 H2 qact QS0 QS1
   have q4:w3.cell? ⟨g,72,none⟩=some (.int .i64 1):=by rw[FX.out _ _ H3.out (by simp) |>.act];rw[HACT.out]
   clear q3
   cases B1 with
   | true=>
    go_wp2_with fail;go_ret;exact⟨by rw[HD2.out];rfl,H3.out.weaken (A:=[_])⟩
   | false=>
    go_wp2_with (with_reducible refine zb 19 rfl (by kernel_rfl) 26 (.tmp 18) rfl g 0 rfl S0 _ R3.out Tryz.underlying26 rfl I0.out ?_)
    refine(K0.out _ _ H3.out).mono ?_;rintro e w4 ⟨rfl,h4⟩
    have q5:w4.cell? ⟨g,72,none⟩=some (.int .i64 1):=by rw[FX.out _ _ h4 (by simp) |>.act];rw[HACT.out]
    have H4:=za h4;clear h4 H3 q4 R3
    cases B0 with
    | true=>
     go_wp2_with fail;go_ret;exact⟨by rw[HD2.out];rfl,H4.out.weaken (A:=[_])⟩
    | false=>
     go_wp2_with fail;go_ret;exact⟨by rw[HD2.out];rfl,H4.out.weaken (A:=[_])⟩
end
end

section
set_option linter.unusedVariables false
set_option linter.unusedSimpArgs false
open Go.RowKit
section
variable {P:Program} {W:World} {J:Nat→Option Obj} {md:Region.Mode} {l:List Oper} {a0:Act} {X:List (Nat × Obj)} {Q:Exit→Act→World→Prop}
end
section
variable {P:Program} {W w:World} {I:Nat→Option Obj} {F:List (Nat × Obj)} {o:Oper} {a:Act} {K:Act→World→Prop} {Q:Exit→Act→World→Prop}
theorem wp_once_bs (t:TypeId) (n:Nat) (ps:Array (Nat × Operand)) (ho:o.op=.buildSlice t n ps) (vs:Array (Nat × Value)) (hvs:(ps.map fun(i,x)=>(i,a.eval x))=vs)
  {X:Array Value} {T:TypeId} {k:Nat} (hr:∀w,(Instr.buildSlice t n vs).run P w=.ok (.slice (some ⟨w.heap.size,0,none⟩) k k) (w.alloc (.cells X T))) (hst:St W w I F)
  (h:∀b w',St W w' I ((b,.cells X T (0,0))::F)→K (a.put o.dst (.slice (some ⟨b,0,none⟩) k k)) w'):o.wp P a w K Q:=by
 subst hvs;unfold Oper.wp execOp;simp only[ho,Sem.run_bind,hr,Result.andThen_ok];exact h _ _ (hst.alloc _)
theorem zw {ops:Array Oper} {rest:List Oper} (hgd:o.guard=none) (t:TypeId) (n:Nat) (ps:Array (Nat × Operand)) (ho:o.op=.buildSlice t n ps) (vs:Array (Nat × Value)) (hvs:(ps.map fun(i,x)=>(i,a.eval x))=vs)
  {X:Array Value} {T:TypeId} {k:Nat} (hr:∀w,(Instr.buildSlice t n vs).run P w=.ok (.slice (some ⟨w.heap.size,0,none⟩) k k) (w.alloc (.cells X T))) (hst:St W w I F)
  (h:∀b w',St W w' I ((b,.cells X T (0,0))::F)→wpList P ops Q rest (a.put o.dst (.slice (some ⟨b,0,none⟩) k k)) w'):wpList P ops Q (o::rest) a w:=
 wpList_plain hgd fun K hK=>wp_once_bs t n ps ho vs hvs hr hst fun b w' hs=>hK _ _ (h b w' hs)
end
end

section
set_option linter.unusedVariables false
set_option linter.unusedSimpArgs false
open Go.RowKit Go.Lib Go.Deep
section
variable {W w:World} {J:Nat→Option Obj} {t:Tb} {F:List (Nat × Obj)}
theorem cg_info3:∃ie:TypeInfo,Tryz.prog.info? 147=some ie∧ie.zero=some (.agg (⟨0,0,0,zS,0⟩:Cg).cells)∧ie.size=40:=by
 have h:=jw
 cases hi:Tryz.prog.info? 147 with
 | none=>rw[hi]at h;cases h
 | some ie=>
  rw[hi]at h;simp only[Option.map_some,Option.some.injEq,Prod.mk.injEq]at h;exact⟨ie,rfl,h.1,h.2.1⟩
theorem run_bs_cgs (n:Nat) (hn:0 < n) (hm:n≤8) (vs:List Value) (hl:vs.length=n) (hv:∀v∈vs,v.cells.size=40) (w:World) :
  (Instr.buildSlice 94 n ((vs.zipIdx 0).map fun x=>(x.2,x.1)).toArray).run Tryz.prog w=.ok (.slice (some ⟨w.heap.size,0,none⟩) n n) (w.alloc (.cells (vs.flatMap fun v=>v.cells.toList).toArray 147)):=by
 obtain⟨ie,h1,h2,h3⟩:=cg_info3;refine Go.run_buildSlice w 94 147 n _ _ ie _ Tryz.underlying94 h1 h2 (by rw[h3];omega) (by rw[h3];omega) ?_;rw[h3,List.toList_toArray];exact Go.Great.fill_whole (by decide) vs _ hv (by simp[hl])
theorem yy (c:Cg) (ok:c.tos.Ok) (w:World):(Instr.buildSlice 94 1 #[(0,.agg c.cells)]).run Tryz.prog w=.ok (.slice (some ⟨w.heap.size,0,none⟩) 1 1) (w.alloc (.cells c.cells 147)):=by
 have:=run_bs_cgs 1 (by decide) (by decide) [.agg c.cells] rfl (by intro v hv;simp at hv;subst hv;exact Cg.size ok) w
 simpa[Value.cells] using this
theorem run_bs_cg2 (c d:Cg) (ok:c.tos.Ok) (okd:d.tos.Ok) (w:World):(Instr.buildSlice 94 2 #[(0,.agg c.cells),(1,.agg d.cells)]).run Tryz.prog w=.ok (.slice (some ⟨w.heap.size,0,none⟩) 2 2) (w.alloc (.cells (c.cells++d.cells) 147)):=by
 have:=run_bs_cgs 2 (by decide) (by decide) [.agg c.cells,.agg d.cells] rfl (by intro v hv;simp at hv;rcases hv with rfl|rfl;exact Cg.size ok;exact Cg.size okd) w
 have e:(List.flatMap (fun v=>(Value.cells v).toList) [Value.agg c.cells,.agg d.cells]).toArray=c.cells++d.cells:=by
  apply Array.toList_inj.1
  simp[Value.cells]
 rw[e]at this;exact this
theorem run_build_b1 (w:World):(Instr.build 26 #[(0,.int .i64 1)]).run Tryz.prog w=.ok (.agg (bareS 1).cells) w:=run_build w _ _ _ (by kernel_rfl)
theorem ref_aim (ok:t.Ok) (h:St W w J F):Calls Tryz.prog 78 #[t.val] w fun e w'=>e=.returned (.int .i64 (aimT t))∧St W w' J F:=by
 have h1:=h.alloc (.cells t.cells 29);obtain⟨g,hg⟩:∃g,w.heap.size=g:=⟨_,rfl⟩;rw[hg]at h1
 have kR:=fun(v:World) (X:List (Nat × Obj)) (hv:St W v J X)=>jm t ok hv
 have fx:=fun(v:World) (X:List (Nat × Obj)) (hv:St W v J X) (hx:(g,Obj.cells t.cells 29 (0,0))∈X)=>hv.tb ok hx
 have ti:=z7 ok
 have ixa:zx t=true→t.act=0∨t.act=1:=fun hr=>by
  unfold zx at hr;simp only[Bool.and_eq_true]at hr
  simpa[ixB] using hr.2.2.1
 obtain⟨Z,hZ⟩:∃y,aimT t=y:=⟨_,rfl⟩;have HD:Hid (Z=aimT t):=za hZ.symm;rw[hZ];obtain⟨V,hV⟩:∃y,zx t=y:=⟨_,rfl⟩;rw[hV]at kR ixa;have HV:=za hV;unfold Tb.val at *;obtain⟨bo,hbo⟩:∃y,t.boo=y:=⟨_,rfl⟩;obtain⟨s0,hs0⟩:∃y,t.s0.st=y:=⟨_,rfl⟩;obtain⟨s1,hs1⟩:∃y,t.s1.st=y:=⟨_,rfl⟩;obtain⟨C,hC⟩:∃C,t.cells=C:=⟨_,rfl⟩
 have FALL:Hid (∀v X,St W v J X→(g,Obj.cells C 29 (0,0))∈X→v.rangeAt g 0 C.toList∧v.cell? ⟨g,72,none⟩=some (.int .i64 t.act)∧v.cell? ⟨g,73,none⟩=some (.int .i64 bo)∧v.cell? ⟨g,0,none⟩=some (.int .i64 s0)∧v.cell? ⟨g,36,none⟩=some (.int .i64 s1)):=za fun v X hv hx=>by
  rw[←hC]at hx;have q:=fx v X hv hx;rw[←hC,←hbo,←hs0,←hs1];exact⟨q.all,q.act,q.boo,q.st0,q.st1⟩
 rw[hC]at h1 kR ti ⊢;have H1:=za h1;have KR:=za kR;have TI:=za ti;have IXA:=za ixa;have HBO:=za hbo;have HT0:=za hs0;have HT1:=za hs1;clear h1 kR fx ti ixa hbo hs0 hs1 hC hZ hV h
 go_enter Tryz.func78,Tryz.ntmps78
 have QA:=za (FALL.out _ _ H1.out (List.mem_cons_self ..)).1
 go_wp2_with (with_reducible refine zb 3 rfl (by kernel_rfl) 29 (.tmp 1) rfl g 0 rfl C _ QA.out Tryz.underlying29 rfl TI.out ?_)
 refine(KR.out _ _ H1.out).mono ?_;rintro e w2 ⟨rfl,h2⟩;obtain⟨-,qact,qboo,qs0,qs1⟩:=FALL.out _ _ h2 (List.mem_cons_self ..);have H2:=za h2;clear h2 H1 QA
 cases V with
 | false=>
  have HE:=za (show Z=-1 by rw[HD.out];unfold aimT;rw[if_neg (fun h=>by rw[HV.out]at h;cases h.1)]);go_wp2_with fail;go_ret;exact⟨by rw[HE.out];rfl,H2.out.weaken (A:=[_])⟩
 | true=>
  rcases IXA.out (by trivial) with hact|hact
  ·have HACT:=za hact
   rw[hact]at qact
   have hD:Hid (Z=if 0=bo∧s0=3 then 1 else -1):=za (by
    rw[HD.out];unfold aimT;rw[hact,HBO.out,show(t.at_ 0)=t.s0 from rfl,HT0.out,show(1:Int)-0=1 from rfl]
    simp only[HV.out,true_and])
   clear HD HT0 HT1 hact
   by_cases hb:bo=0
   ·subst hb
    by_cases h3:s0=3
    ·have b3:(s0==3)=true:=by simpa using h3
     have HE:=za (show Z=1 by rw[hD.out,if_pos ⟨rfl,h3⟩]);clear h3 hD;go_wp2_with fail;go_ret;exact⟨by rw[HE.out];rfl,H2.out.weaken (A:=[_])⟩
    ·have b3:(s0==3)=false:=by simpa using h3
     have HE:=za (show Z=-1 by rw[hD.out,if_neg (fun h=>h3 h.2)]);clear h3 hD;go_wp2_with fail;go_ret;exact⟨by rw[HE.out];rfl,H2.out.weaken (A:=[_])⟩
   ·have b2:(bo==0)=false:=by simpa using hb
    have HE:=za (show Z=-1 by rw[hD.out,if_neg (fun h=>hb h.1.symm)]);clear hb hD;go_wp2_with fail;go_ret;exact⟨by rw[HE.out];rfl,H2.out.weaken (A:=[_])⟩
  ·have HACT:=za hact
   rw[hact]at qact
   have hD:Hid (Z=if 1=bo∧s1=3 then 0 else -1):=za (by
    rw[HD.out];unfold aimT;rw[hact,HBO.out,show(t.at_ 1)=t.s1 from rfl,HT1.out,show(1:Int)-1=0 from rfl]
    simp only[HV.out,true_and])
   clear HD HT0 HT1 hact
   by_cases hb:bo=1
   ·subst hb
    by_cases h3:s1=3
    ·have b3:(s1==3)=true:=by simpa using h3
     have HE:=za (show Z=0 by rw[hD.out,if_pos ⟨rfl,h3⟩]);clear h3 hD;go_wp2_with fail;go_ret;exact⟨by rw[HE.out];rfl,H2.out.weaken (A:=[_])⟩
    ·have b3:(s1==3)=false:=by simpa using h3
     have HE:=za (show Z=-1 by rw[hD.out,if_neg (fun h=>h3 h.2)]);clear h3 hD;go_wp2_with fail;go_ret;exact⟨by rw[HE.out];rfl,H2.out.weaken (A:=[_])⟩
   ·have b2:(bo==1)=false:=by simpa using hb
    have HE:=za (show Z=-1 by rw[hD.out,if_neg (fun h=>hb h.1.symm)]);clear hb hD;go_wp2_with fail;go_ret;exact⟨by rw[HE.out];rfl,H2.out.weaken (A:=[_])⟩
theorem ref_wipe (ok:t.Ok) (h:St W w J F):Calls Tryz.prog 77 #[t.val] w (CPost W J F (wipeT t)):=by
 have h1:=h.alloc (.cells t.cells 29);obtain⟨g,hg⟩:∃g,w.heap.size=g:=⟨_,rfl⟩;rw[hg]at h1
 have kA:=fun(v:World) (X:List (Nat × Obj)) (hv:St W v J X)=>ref_aim ok hv
 have ti:=z7 ok
 have rg:=fun(v:World) (X:List (Nat × Obj)) (hv:St W v J X) (hx:(g,Obj.cells t.cells 29 (0,0))∈X)=>(hv.tb ok hx).all
 obtain⟨A,hA⟩:∃A,aimT t=A:=⟨_,rfl⟩;rw[hA]at kA;have bok:(setC A (bareS 1)).tos.Ok:=qw 1 (by decide) (by decide)
 have fin0:A=-1→∀v,St W v J F→CPost W J F (wipeT t) (.returned (.tuple #[.slice none 0 0,.int .i64 101])) v:=fun ha v hv=>by
  unfold wipeT;rw[hA,if_pos ha];exact CPost.nothing 101 hv
 have fin1:A≠-1→∀v b,St W v J ((b,.cells (setC A (bareS 1)).cells 147 (0,0))::F)→CPost W J F (wipeT t) (.returned (.tuple #[.slice (some ⟨b,0,none⟩) 1 1,.int .i64 0])) v:=fun ha v b hv=>by
  unfold wipeT;rw[hA,if_neg ha];exact CPost.one bok hv
 have b1:=run_build_b1;have b2:=yx A (bareS 1) (qw 1 (by decide) (by decide));have b3:=yy (setC A (bareS 1)) bok;unfold Tb.val at *;obtain⟨C,hC⟩:∃C,t.cells=C:=⟨_,rfl⟩;rw[hC]at h1 kA ti rg ⊢;obtain⟨SB,hSB⟩:∃C,(bareS 1).cells=C:=⟨_,rfl⟩;rw[hSB]at b1 b2;obtain⟨SC,hSC⟩:∃C,(setC A (bareS 1)).cells=C:=⟨_,rfl⟩;rw[hSC]at b2 b3 fin1;generalize wipeT t=R at *;have H1:=za h1;have KA:=za kA;have TI:=za ti;have RG:=za rg;have F0:=za fin0;have F1:=za fin1;have B1:=za b1;have B2:=za b2;have B3:=za b3;clear h1 kA ti rg fin0 fin1 b1 b2 b3 hC hSB hSC hA bok h
 go_enter Tryz.func77,Tryz.ntmps77
 have QA:=za (RG.out _ _ H1.out (List.mem_cons_self ..))
 go_wp2_with (with_reducible refine zb 4 rfl (by kernel_rfl) 29 (.tmp 1) rfl g 0 rfl C _ QA.out Tryz.underlying29 rfl TI.out ?_)
 refine(KA.out _ _ H1.out).mono ?_;rintro e w2 ⟨rfl,h2⟩;have H2:=za h2;clear h2 H1 QA
 by_cases ha:A=-1
 ·have b1:(A==-1)=true:=by simpa using ha
  have HE:=za (F0.out ha _ (H2.out.weaken (A:=[_])));clear ha;go_wp2_with fail
  go_ret2
  exact HE.out
 ·have b1:(A==-1)=false:=by simpa using ha
  have QA:=za (RG.out _ _ H2.out (List.mem_cons_self ..));have HY:=za (F1.out ha);clear ha
  go_wp2_with (with_reducible refine zb 7 rfl (by kernel_rfl) 29 (.tmp 1) rfl g 0 rfl C _ QA.out Tryz.underlying29 rfl TI.out ?_)
  refine(KA.out _ _ H2.out).mono ?_;rintro e w3 ⟨rfl,h3⟩;have H3:=za h3;clear h3 H2 QA
  go_wp2_with (first|(with_reducible refine zh rfl 26 _ rfl _ ?_ (B1.out _) ?_;·go_simp)|(with_reducible refine zh rfl 147 _ rfl _ ?_ (B2.out _) ?_;·go_simp)|(refine zw rfl 94 1 _ rfl _ (by kernel_rfl) B3.out H3.out ?_;intro b w4 h4;refine Hid.out ?_))
  refine za ?_;have HE:=za (HY.out _ b (St.mid (A:=[_]) (B:=[_]) h4));clear h4;go_wp2_with fail
  go_ret2
  exact HE.out
end
end

section
set_option linter.unusedVariables false
set_option linter.unusedSimpArgs false
open Go.RowKit Go.Lib Go.Deep
section
variable {W w:World} {J:Nat→Option Obj} {t:Tb} {F:List (Nat × Obj)}
theorem qd (w:World):(Instr.build 26 #[]).run Tryz.prog w=.ok (.agg zS.cells) w:=run_build w _ _ _ (by kernel_rfl)
theorem eq_zs (w:World):(Op.equalIn 10000 26 (.agg zS.cells) (.agg zbj)).run Tryz.prog w=.ok true w:=by kernel_rfl
theorem cg_at {c:Cg} {v:World} {X:List (Nat × Obj)} {b:Nat} (ok:c.tos.Ok) (hv:St W v J X) (hm:(b,Obj.cells c.cells 147 (0,0))∈X):v.cell? ⟨b,0,none⟩=some (.int .i64 c.kind)∧v.cell? ⟨b,1,none⟩=some (.int .i64 c.slot)∧v.cell? ⟨b,2,none⟩=some (.int .i64 c.n)∧v.cell? ⟨b,39,none⟩=some (.int .u64 c.ver)∧v.rangeAt b 3 c.tos.cells.toList:=
 ⟨hv.cell hm 0,hv.cell hm 1,hv.cell hm 2,(hv.cell hm 39).trans (Cg.g39 ok),fun j u hj=>by
  have hl:=(List.getElem?_eq_some_iff.1 hj).1;rw[Array.length_toList,Slt.size ok.dig]at hl;rw[hv.cell hm (3+j),Cg.gm ok j hl]
  simpa using hj⟩
theorem ref_one_set (i:Int) (s:Slt) (ok:s.Ok) (h:St W w J F):Calls Tryz.prog 115 #[(setC i s).val] w fun e w'=>e=.returned (.bool (crT (setC i s)))∧St W w' J F:=by
 have cok:(setC i s).tos.Ok:=ok;have h1:=h.alloc (.cells (setC i s).cells 147);obtain⟨g,hg⟩:∃g,w.heap.size=g:=⟨_,rfl⟩;rw[hg]at h1
 have fx:=fun(v:World) (X:List (Nat × Obj)) (hv:St W v J X) (hm:(g,Obj.cells (setC i s).cells 147 (0,0))∈X)=>cg_at cok hv hm
 have si:=yg cok;have bz:=qd;have ez:=eq_zs
 have kr:=fun(v:World) (X:List (Nat × Obj)) (hv:St W v J X)=>j9 s ok hv
 obtain⟨R,hR⟩:∃y,crT (setC i s)=y:=⟨_,rfl⟩;have HR:=za hR;rw[hR];unfold Cg.val;dsimp only[setC,actC,booC,floC]at fx si cok;obtain⟨C,hC⟩:∃y,(setC i s).cells=y:=⟨_,rfl⟩;rw[hC]at h1 ⊢;have FX:Hid (∀v X,St W v J X→(g,Obj.cells C 147 (0,0))∈X→_):=za (fun v X hv hm=>fx v X hv (by rw[←hC]at hm;exact hm));obtain⟨c0,c1,c2,c39,r3⟩:=FX.out _ _ h1 (List.mem_cons_self ..);obtain⟨SC,hSC⟩:∃y,(s).cells=y:=⟨_,rfl⟩;rw[hSC]at r3 si;obtain⟨V,hV⟩:∃y,rightS s=y:=⟨_,rfl⟩;unfold Slt.val at kr;rw[hSC,hV]at kr;have HV:=za hV;have R3:=za r3;have SI:=za si;have KR:=za kr;have H1:=za h1;clear r3 si bz ez kr fx hC hSC h1 hR hV h cok FX ok
 go_enter Tryz.func115,Tryz.ntmps115
 by_cases h0:i < 0
 ·have b0:decide (i≥0)=false:=by simpa using h0
  have HH:=za h0;clear h0;go_wp2_with fail;go_ret;exact⟨by rw[←HR.out];have:=HH.out;simp[crT,setC,ixB];omega,H1.out.weaken (A:=[_])⟩
 ·have b0:decide (i≥0)=true:=by simpa using h0
  by_cases h2:1 < i
  ·have b2:decide (i≤1)=false:=by simpa using h2
   have HH:=za h2;clear h0 h2;go_wp2_with fail;go_ret;exact⟨by rw[←HR.out];have:=HH.out;simp[crT,setC,ixB];omega,H1.out.weaken (A:=[_])⟩
  ·have b2:decide (i≤1)=true:=by simpa using h2
   have HH:=za (show i=0∨i=1 by omega);clear h0 h2
   go_wp2_with (with_reducible refine zb 27 rfl (by kernel_rfl) 26 (.tmp 26) rfl g 3 rfl SC _ R3.out Tryz.underlying26 rfl SI.out ?_)
   refine(KR.out _ _ H1.out).mono ?_;rintro e w3 ⟨rfl,h3⟩;have H3:=za h3;clear h3
   have hfin:V=R:=by
    rw[←HR.out,←HV.out];have:=HH.out;rw[show crT (setC i s)=(ixB i&&rightS s) from rfl,show ixB i=true from (ul i).2 this,Bool.true_and]
   have HF:=za hfin;clear hfin
   cases V with
   | true=>
    go_wp2_with fail;go_ret;exact⟨by rw[←HF.out];rfl,H3.out.weaken (A:=[_])⟩
   | false=>
    go_wp2_with fail;go_ret;exact⟨by rw[←HF.out];rfl,H3.out.weaken (A:=[_])⟩
theorem ref_one_act (i:Int) (h:St W w J F):Calls Tryz.prog 115 #[(actC i).val] w fun e w'=>e=.returned (.bool (crT (actC i)))∧St W w' J F:=by
 have cok:(actC i).tos.Ok:=zS_ok;have h1:=h.alloc (.cells (actC i).cells 147);obtain⟨g,hg⟩:∃g,w.heap.size=g:=⟨_,rfl⟩;rw[hg]at h1
 have fx:=fun(v:World) (X:List (Nat × Obj)) (hv:St W v J X) (hm:(g,Obj.cells (actC i).cells 147 (0,0))∈X)=>cg_at cok hv hm
 have si:=yg cok;have bz:=qd;have ez:=eq_zs;obtain⟨R,hR⟩:∃y,crT (actC i)=y:=⟨_,rfl⟩;have HR:=za hR;rw[hR];unfold Cg.val;dsimp only[setC,actC,booC,floC]at fx si cok;obtain⟨C,hC⟩:∃y,(actC i).cells=y:=⟨_,rfl⟩;rw[hC]at h1 ⊢;have FX:Hid (∀v X,St W v J X→(g,Obj.cells C 147 (0,0))∈X→_):=za (fun v X hv hm=>fx v X hv (by rw[←hC]at hm;exact hm));obtain⟨c0,c1,c2,c39,r3⟩:=FX.out _ _ h1 (List.mem_cons_self ..);obtain⟨SC,hSC⟩:∃y,(zS).cells=y:=⟨_,rfl⟩;rw[hSC]at r3 si;have hz:zS.cells=SC:=hSC;rw[hz]at bz ez;have R3:=za r3;have SI:=za si;have BZ:=za bz;have H1:=za h1;clear r3 si bz fx hC hSC h1 hz hR h cok FX
 go_enter Tryz.func115,Tryz.ntmps115
 by_cases h0:i < 0
 ·have b0:decide (i≥0)=false:=by simpa using h0
  have HH:=za h0;clear h0
  go_wp2_with ((with_reducible refine zb 42 rfl (by kernel_rfl) 26 (.tmp 41) rfl g 3 rfl SC _ R3.out Tryz.underlying26 rfl SI.out ?_))
  go_ret;exact⟨by rw[←HR.out];have:=HH.out;simp[crT,actC,ixB];omega,H1.out.weaken (A:=[_])⟩
 ·have b0:decide (i≥0)=true:=by simpa using h0
  by_cases h2:1 < i
  ·have b2:decide (i≤1)=false:=by simpa using h2
   have HH:=za h2;clear h0 h2
   go_wp2_with ((with_reducible refine zb 42 rfl (by kernel_rfl) 26 (.tmp 41) rfl g 3 rfl SC _ R3.out Tryz.underlying26 rfl SI.out ?_))
   go_ret;exact⟨by rw[←HR.out];have:=HH.out;simp[crT,actC,ixB];omega,H1.out.weaken (A:=[_])⟩
  ·have b2:decide (i≤1)=true:=by simpa using h2
   have HH:=za (show 0≤i∧i≤1 by omega);clear h0 h2
   go_wp2_with ((with_reducible refine zb 42 rfl (by kernel_rfl) 26 (.tmp 41) rfl g 3 rfl SC _ R3.out Tryz.underlying26 rfl SI.out ?_))
   go_ret;exact⟨by rw[←HR.out];have:=HH.out;simp[crT,actC,ixB];omega,H1.out.weaken (A:=[_])⟩
theorem ref_one_boo (i:Int) (h:St W w J F):Calls Tryz.prog 115 #[(booC i).val] w fun e w'=>e=.returned (.bool (crT (booC i)))∧St W w' J F:=by
 have cok:(booC i).tos.Ok:=zS_ok;have h1:=h.alloc (.cells (booC i).cells 147);obtain⟨g,hg⟩:∃g,w.heap.size=g:=⟨_,rfl⟩;rw[hg]at h1
 have fx:=fun(v:World) (X:List (Nat × Obj)) (hv:St W v J X) (hm:(g,Obj.cells (booC i).cells 147 (0,0))∈X)=>cg_at cok hv hm
 have si:=yg cok;have bz:=qd;have ez:=eq_zs;obtain⟨R,hR⟩:∃y,crT (booC i)=y:=⟨_,rfl⟩;have HR:=za hR;rw[hR];unfold Cg.val;dsimp only[setC,actC,booC,floC]at fx si cok;obtain⟨C,hC⟩:∃y,(booC i).cells=y:=⟨_,rfl⟩;rw[hC]at h1 ⊢;have FX:Hid (∀v X,St W v J X→(g,Obj.cells C 147 (0,0))∈X→_):=za (fun v X hv hm=>fx v X hv (by rw[←hC]at hm;exact hm));obtain⟨c0,c1,c2,c39,r3⟩:=FX.out _ _ h1 (List.mem_cons_self ..);obtain⟨SC,hSC⟩:∃y,(zS).cells=y:=⟨_,rfl⟩;rw[hSC]at r3 si;have hz:zS.cells=SC:=hSC;rw[hz]at bz ez;have R3:=za r3;have SI:=za si;have BZ:=za bz;have H1:=za h1;clear r3 si bz fx hC hSC h1 hz hR h cok FX
 go_enter Tryz.func115,Tryz.ntmps115
 by_cases h0:i < -1
 ·have b0:decide (i≥-1)=false:=by simpa using h0
  have HH:=za h0;clear h0
  go_wp2_with ((with_reducible refine zb 68 rfl (by kernel_rfl) 26 (.tmp 67) rfl g 3 rfl SC _ R3.out Tryz.underlying26 rfl SI.out ?_))
  go_ret;exact⟨by rw[←HR.out];have:=HH.out;simp[crT,booC,ixB];omega,H1.out.weaken (A:=[_])⟩
 ·have b0:decide (i≥-1)=true:=by simpa using h0
  by_cases h2:1 < i
  ·have b2:decide (i≤1)=false:=by simpa using h2
   have HH:=za h2;clear h0 h2
   go_wp2_with ((with_reducible refine zb 68 rfl (by kernel_rfl) 26 (.tmp 67) rfl g 3 rfl SC _ R3.out Tryz.underlying26 rfl SI.out ?_))
   go_ret;exact⟨by rw[←HR.out];have:=HH.out;simp[crT,booC,ixB];omega,H1.out.weaken (A:=[_])⟩
  ·have b2:decide (i≤1)=true:=by simpa using h2
   have HH:=za (show -1≤i∧i≤1 by omega);clear h0 h2
   go_wp2_with ((with_reducible refine zb 68 rfl (by kernel_rfl) 26 (.tmp 67) rfl g 3 rfl SC _ R3.out Tryz.underlying26 rfl SI.out ?_))
   go_ret;exact⟨by rw[←HR.out];have:=HH.out;simp[crT,booC,ixB];omega,H1.out.weaken (A:=[_])⟩
theorem ref_one_flo (i:Int) (h:St W w J F):Calls Tryz.prog 115 #[(floC i).val] w fun e w'=>e=.returned (.bool (crT (floC i)))∧St W w' J F:=by
 have cok:(floC i).tos.Ok:=zS_ok;have h1:=h.alloc (.cells (floC i).cells 147);obtain⟨g,hg⟩:∃g,w.heap.size=g:=⟨_,rfl⟩;rw[hg]at h1
 have fx:=fun(v:World) (X:List (Nat × Obj)) (hv:St W v J X) (hm:(g,Obj.cells (floC i).cells 147 (0,0))∈X)=>cg_at cok hv hm
 have si:=yg cok;have bz:=qd;have ez:=eq_zs;obtain⟨R,hR⟩:∃y,crT (floC i)=y:=⟨_,rfl⟩;have HR:=za hR;rw[hR];unfold Cg.val;dsimp only[setC,actC,booC,floC]at fx si cok;obtain⟨C,hC⟩:∃y,(floC i).cells=y:=⟨_,rfl⟩;rw[hC]at h1 ⊢;have FX:Hid (∀v X,St W v J X→(g,Obj.cells C 147 (0,0))∈X→_):=za (fun v X hv hm=>fx v X hv (by rw[←hC]at hm;exact hm));obtain⟨c0,c1,c2,c39,r3⟩:=FX.out _ _ h1 (List.mem_cons_self ..);obtain⟨SC,hSC⟩:∃y,(zS).cells=y:=⟨_,rfl⟩;rw[hSC]at r3 si;have hz:zS.cells=SC:=hSC;rw[hz]at bz ez;have R3:=za r3;have SI:=za si;have BZ:=za bz;have H1:=za h1;clear r3 si bz fx hC hSC h1 hz hR h cok FX
 go_enter Tryz.func115,Tryz.ntmps115
 by_cases h2:i≤281474976710656
 ·have b2:decide (i≤281474976710656)=true:=by simpa using h2
  have HH:=za h2;clear h2
  go_wp2_with ((with_reducible refine zb 94 rfl (by kernel_rfl) 26 (.tmp 93) rfl g 3 rfl SC _ R3.out Tryz.underlying26 rfl SI.out ?_))
  go_ret;exact⟨by rw[←HR.out];simp[crT,floC,HH.out],H1.out.weaken (A:=[_])⟩
 ·have b2:decide (i≤281474976710656)=false:=by simpa using h2
  have HH:=za h2;clear h2
  go_wp2_with ((with_reducible refine zb 94 rfl (by kernel_rfl) 26 (.tmp 93) rfl g 3 rfl SC _ R3.out Tryz.underlying26 rfl SI.out ?_))
  go_ret;exact⟨by rw[←HR.out];simp[crT,floC];have:=HH.out;exact decide_eq_false (by omega),H1.out.weaken (A:=[_])⟩
theorem ref_one {c:Cg} (hf:FormC c) (h:St W w J F):Calls Tryz.prog 115 #[c.val] w fun e w'=>e=.returned (.bool (crT c))∧St W w' J F:=by
 cases hf with
 | set i s h0 h1 ok=>exact ref_one_set i s ok h
 | act i h0 h1=>exact ref_one_act i h
 | boo i h0 h1=>exact ref_one_boo i h
 | flo i h0 h1=>exact ref_one_flo i h
theorem ref_all {cs:List Cg} {A:Option Addr} {n c:Nat} {L:List (Nat × Obj)} (hf:∀c∈cs,FormC c) (hr:Row 147 40 (.slice A n c) n (cgs cs) L) (h8:cs.length≤8) (h:St W w J (L++F)) :
  Calls Tryz.prog 91 #[.slice A n c] w fun e w'=>e=.returned (.bool (cs.all crT))∧St W w' J (L++F):=by
 obtain⟨hn,hrow⟩:=zba hf hr
 have kc:=fun(x:Cg) (hx:FormC x) (v:World) (X:List (Nat × Obj)) (hv:St W v J X)=>ref_one hx hv
 obtain⟨V,hV⟩:∃V,cs.all crT=V:=⟨_,rfl⟩
 have hT:(∀j x,cs[j]?=some x→crT x=true)→V=true:=fun hh=>by
  rw[←hV,List.all_eq_true];intro x hx;obtain⟨j,hj⟩:=List.getElem?_of_mem hx;exact hh j x hj
 have hF:∀j x,cs[j]?=some x→crT x=false→V=false:=fun j x hj hx=>by
  rw[←hV,List.all_eq_false];exact⟨x,List.mem_of_getElem? hj,by rw[hx];decide⟩
 rw[hV];have HT:=za hT;have HF:=za hF;have KC:=za kc;have HROW:=za hrow;have HFC:=za hf;have H0:=za h
 have n8:(n:Int)≤8:=by omega
 have HN:=za hn;clear hT hF kc hrow hf h hV hr h8 hn
 go_enter Tryz.func91,Tryz.ntmps91
 go_wp2_with fail
 go_loopw [7] (fun i wr=>∃k:Nat,i=.int .i64 k∧k≤n∧(∀j x,j < k→cs[j]?=some x→crT x=true)∧St W wr J (L++F)) (fun i _=>n-(intOf i).toNat)
 case atStart=>exact⟨0,rfl,by omega,fun j x hj=>by omega,H0.out⟩
 case round=>
  obtain⟨k,rfl,hk,hall,hst⟩:=hrel;clear H0
  by_cases hlt:k < n
  ·have hltI:(k:Int) < (n:Int):=by omega
   have k0:¬(k:Int) < 0:=by omega
   have hlt2:k < cs.length:=by rw[←HN.out];exact hlt
   obtain⟨x,hx⟩:∃x,cs[k]?=some x:=⟨_,List.getElem?_eq_getElem hlt2⟩;obtain⟨gA,off,cur,rfl,rfl,hcell⟩:=HROW.out k x hx;have hfx:=HFC.out x (List.mem_of_getElem? hx);have hsz:=Cg.size hfx.tos;have hin:=k8 hfx.tos;have hon:=Cg.one x
   have rg:∀(v:World) (X:List (Nat × Obj)),St W v J X→(gA,Obj.cells cur 147 (0,0))∈X→v.rangeAt gA (off+k*40) x.cells.toList:=fun v X hv hm j u hj=>by
    have hl:j < 40:=by have:=(List.getElem?_eq_some_iff.1 hj).1;rw[Array.length_toList,hsz]at this;exact this
    rw[hv.cell hm (off+k*40+j),hcell j hl];simpa using hj
   have rg2:∀(v:World) (X:List (Nat × Obj)) (b:Nat),St W v J X→(b,Obj.cells x.cells 147 (0,0))∈X→v.rangeAt b 0 x.cells.toList:=fun v X b hv hm j u hj=>by
    rw[Nat.zero_add,hv.cell hm j];simpa using hj
   have kx:=fun(v:World) (X:List (Nat × Obj)) (hv:St W v J X)=>KC.out x hfx v X hv
   obtain⟨B,hB⟩:∃B,crT x=B:=⟨_,rfl⟩;unfold Cg.val at kx;rw[hB]at kx;have hF:=HF.out k x hx
   have hT2:crT x=true→∀j y,j < k+1→cs[j]?=some y→crT y=true:=fun hc j y hj hy=>by
    by_cases hjk:j=k
    ·subst hjk;rw[hx]at hy;injection hy with hy;subst hy;exact hc
    ·exact hall j y (by omega) hy
   rw[hB]at hF hT2;obtain⟨X,hX⟩:∃X,x.cells=X:=⟨_,rfl⟩;rw[hX]at hsz hin hon rg rg2 kx
   have hfit:0+X.size≤(zbi).size:=by rw[hsz];decide
   have hmany:zg zbi 0 X.toList=X:=by rw[zd _ _ (by rw[Array.length_toList,hsz];rfl),Array.toArray_toList]
   have RG:=za (rg _ _ hst (by simp));have RG2:=za rg2;have KX:=za kx;have HIN:=za hin;have HON:=za hon;have HFIT:=za hfit;have HMANY:=za hmany;have HFX:=za hF;have HTX:=za hT2;have HST:=za (hst.alloc (.cells zbi 147));have HALL:=za hall;clear hst rg rg2 kx hin hon hfit hmany hF hT2 hX hB hx hfx hcell hall HROW HFC HF KC
   go_wp2_with (first|(with_reducible refine zb 10 rfl (by kernel_rfl) 147 (.tmp 9) rfl gA (off+k*40) rfl X _ RG.out Tryz.underlying147 rfl HIN.out ?_)|(with_reducible refine zc rfl 147 (.tmp 4) (.tmp 10) rfl (g:=wr.heap.size) (off:=0) X rfl rfl HST.out HFIT.out HIN.out HON.out ?_;intro w4 h4;refine Hid.out ?_))
   refine za ?_;rw[HMANY.out]at h4;obtain⟨g4,hg4⟩:∃y,wr.heap.size=y:=⟨_,rfl⟩;rw[hg4]at h4 ⊢;have R4:=za (RG2.out _ _ g4 h4 (List.mem_cons_self ..));have KX4:=za (KX.out _ _ h4);clear h4 HST RG
   go_wp2_with (with_reducible refine zb 11 rfl (by kernel_rfl) 147 (.tmp 4) rfl g4 0 rfl X _ R4.out Tryz.underlying147 rfl HIN.out ?_)
   refine KX4.out.mono ?_;rintro e w5 ⟨rfl,h5⟩;have H5:=za (h5.weaken (A:=[_]));clear h5 KX4 R4
   cases B with
   | false=>
    have HV:=za (HFX.out rfl);go_wp2_with fail;go_ret;exact⟨congrArg (fun b=>Ending.returned (Value.bool b)) HV.out.symm,H5.out⟩
   | true=>
    have hrel:=HTX.out rfl;have HREL:=za hrel;clear hrel HTX HALL;go_wp2_with fail
    go_roundw
    case rel=>exact⟨k+1,by go_num,by omega,HREL.out,H5.out⟩
    case measure=>simp[intOf];omega
  ·have hge:¬(k:Int) < (n:Int):=by omega
   have HV:=za (HT.out (fun j x hj=>hall j x (by have:=(List.getElem?_eq_some_iff.1 hj).1;rw[←HN.out]at this;omega) hj));have HST:=za hst;clear hst hall HT HF HROW HFC KC;go_wp2_with fail;go_ret;exact⟨congrArg (fun b=>Ending.returned (Value.bool b)) HV.out.symm,HST.out⟩
end
end
end Go.Proofs.YtnjnooeldkideaaGreatDoor
