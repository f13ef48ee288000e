/- call: Right, the document's Right: walks. -/
import Derived.Test.YtnjnooeldkideaaGreatDoorMOrTa
import Derived.Test.YtnjnooeldkideaaGreatDoorMParts
import Derived.Laws.StructEq
namespace Go.Proofs.YtnjnooeldkideaaGreatDoor
set_option maxRecDepth 100000
set_option maxHeartbeats 16000000
set_option linter.unusedVariables false
set_option linter.unusedSimpArgs false
set_option linter.unnecessarySimpa false
open Go.RowKit Go.Lib
def eqC (c d:Cl):Bool:=c.client==d.client&&(c.kind==d.kind&&(c.slot==d.slot&&(c.job==d.job&&c.name.toList==d.name.toList)))
theorem eqC_refl (c:Cl):eqC c c=true:=by simp[eqC]
theorem eqC_iff (c d:Cl):eqC c d=true↔c=d:=by
 constructor
 ·intro h
  simp only[eqC,Bool.and_eq_true,beq_iff_eq,ByteArray.toList_eq]at h;obtain⟨h1,h2,h3,h4,h5⟩:=h
  cases c;cases d
  simp only at h1 h2 h3 h4 h5;subst h1;subst h2;subst h3;subst h4
  congr 1
  apply ByteArray.ext;exact Array.toList_inj.1 h5
 ·rintro rfl;exact eqC_refl c
theorem Cl.at0 (c:Cl):c.cells[0]?=some (.int .i64 c.client):=rfl
theorem Cl.at1 (c:Cl):c.cells[1]?=some (.int .i64 c.kind):=rfl
theorem Cl.at2 (c:Cl):c.cells[2]?=some (.int .i64 c.slot):=rfl
theorem Cl.at3 (c:Cl):c.cells[3]?=some (.int .i64 c.job):=rfl
theorem Cl.at4 (c:Cl):c.cells[4]?=some (.string c.name):=rfl
theorem Cl.one (c:Cl):c.cells.all (·.oneCell')=true:=by unfold Cl.cells;rw[List.all_toArray];rfl
theorem Cl.size (c:Cl):c.cells.size=5:=rfl
theorem yc (c:Cl):(Tryz.prog.info? 50).map (·.size)=some c.cells.size:=by rw[Cl.size];kernel_rfl
theorem ji (w:World) (xs:Array Value) (t:TypeId) (off:Nat) (v:Value) (hA:∀w,(isAgg t).run Tryz.prog w=.ok false w) (h:xs[off]?=some v):(part t xs off).run Tryz.prog w=.ok v w:=by
 unfold part
 simp[hA,h]
theorem ut (c d:Cl) (w:World):(Op.equalIn 10000 50 (.agg c.cells) (.agg d.cells)).run Tryz.prog w=.ok (eqC c d) w:=by
 have i3:∀w,(isAgg 3).run Tryz.prog w=.ok false w:=Tryz.isAgg3;have i9:∀w,(isAgg 9).run Tryz.prog w=.ok false w:=Tryz.isAgg9
 have q0:=fun w=>ji w c.cells 3 0 _ i3 c.at0
 have q1:=fun w=>ji w c.cells 3 1 _ i3 c.at1
 have q2:=fun w=>ji w c.cells 3 2 _ i3 c.at2
 have q3:=fun w=>ji w c.cells 3 3 _ i3 c.at3
 have q4:=fun w=>ji w c.cells 9 4 _ i9 c.at4
 have r0:=fun w=>ji w d.cells 3 0 _ i3 d.at0
 have r1:=fun w=>ji w d.cells 3 1 _ i3 d.at1
 have r2:=fun w=>ji w d.cells 3 2 _ i3 d.at2
 have r3:=fun w=>ji w d.cells 3 3 _ i3 d.at3
 have r4:=fun w=>ji w d.cells 9 4 _ i9 d.at4
 rw[run_equalIn_struct w 9999 50 c.cells d.cells (by simp[Program.fieldsOf,Tryz.underlying50]) (by kernel_rfl)];simp only[Program.fieldsOf,Tryz.underlying50]
 have c1:∀(w:World) (a b:Int),(Op.equalIn 9999 3 (.int .i64 a) (.int .i64 b)).run Tryz.prog w=.ok (a==b) w:=fun w a b=>run_equalIn_int w 9998 3 .i64 .i64 a b Tryz.underlying3
 have c2:∀(w:World) (a b:ByteArray),(Op.equalIn 9999 9 (.string a) (.string b)).run Tryz.prog w=.ok (a.toList==b.toList) w:=fun w a b=>run_equalIn_string w 9998 9 a b Tryz.underlying9
 simp only[Op.eqFields,Sem.run_bind,Sem.run_ite,Sem.run_pure,Result.andThen_ok,q0,q1,q2,q3,q4,r0,r1,r2,r3,r4,c1,c2];unfold eqC
 cases h1:c.client==d.client<;>cases h2:c.kind==d.kind<;>cases h3:c.slot==d.slot<;>cases h4:c.job==d.job<;>cases h5:c.name.toList==d.name.toList<;>simp
section
variable {W w:World} {I:Nat→Option Obj} {F:List (Nat × Obj)}
theorem St.clf {v:World} {J:Nat→Option Obj} {L:List (Nat × Obj)} {b:Nat} {c:Cl} (hv:St W v J L) (hm:(b,Obj.cells c.cells 50 (0,0))∈L) :
  v.cell? ⟨b,0,none⟩=some (.int .i64 c.client)∧v.cell? ⟨b,1,none⟩=some (.int .i64 c.kind)∧v.cell? ⟨b,2,none⟩=some (.int .i64 c.slot)∧v.cell? ⟨b,3,none⟩=some (.int .i64 c.job)∧v.cell? ⟨b,4,none⟩=some (.string c.name):=
 ⟨(hv.cell hm 0).trans c.at0,(hv.cell hm 1).trans c.at1,(hv.cell hm 2).trans c.at2,(hv.cell hm 3).trans c.at3,(hv.cell hm 4).trans c.at4⟩
theorem right_kind (c:Cl) (k:Int) (h:c.kind=k):y3 c=((decide (0≤c.client)&&decide (c.client≤7))&&(if k=1 then (c.slot==0&&c.job==0)&&k7 c.name
  else if k=2 then (c.slot==0&&emp c.name)&&(decide (0≤c.job)&&decide (c.job≤1073741824))
  else if k=3∨k=6 then (c.slot==0&&c.job==0)&&emp c.name
  else if k=4∨k=5 then (c.job==0&&emp c.name)&&(decide (0≤c.slot)&&decide (c.slot≤255))
  else false)):=by unfold y3;rw[h]
theorem call_right (t:TB W I) (c:Cl) (ok:c.Ok) (h:St W w I F) :
  Calls Tryz.prog 39 #[c.val] w fun e w'=>e=.returned (.bool (y3 c))∧St W w' I F:=by
 have h0:=(h.alloc (.cells c.cells 50)).alloc (.cells #[Value.int .i64 c.client,.int .i64 c.kind,.int .i64 0,.int .i64 0,.string ⟨#[]⟩] 50);rw[show(w.alloc (.cells c.cells 50)).heap.size=w.heap.size+1 by simp[World.size_alloc]]at h0
 have kN:=fun(v:World) (F:List (Nat × Obj)) (hv:St W v I F)=>name_any t c.name (by have:=ok.n1;omega) hv
 have p0:=(h.alloc (.cells c.cells 50)).clf (b:=w.heap.size) (c:=c) (by simp)
 have hcf:∀(v:World) (L:List (Nat × Obj)),St W v I L→(w.heap.size,Obj.cells c.cells 50 (0,0))∈L→v.cell? ⟨w.heap.size,0,none⟩=some (.int .i64 c.client)∧v.cell? ⟨w.heap.size,1,none⟩=some (.int .i64 c.kind)∧v.cell? ⟨w.heap.size,2,none⟩=some (.int .i64 c.slot)∧v.cell? ⟨w.heap.size,3,none⟩=some (.int .i64 c.job)∧v.cell? ⟨w.heap.size,4,none⟩=some (.string c.name):=fun v L hv hm=>hv.clf hm
 have e0:=hcf _ _ h0 (by simp)
 have ha:∀cs,St W ((w.alloc (.cells c.cells 50)).alloc (.cells cs 50)) I ((w.heap.size+1,.cells cs 50 (0,0))::(w.heap.size,.cells c.cells 50 (0,0))::F):=fun cs=>by
  have:=(h.alloc (.cells c.cells 50)).alloc (.cells cs 50)
  rwa [show(w.alloc (.cells c.cells 50)).heap.size=w.heap.size+1 by simp[World.size_alloc]]at this
 have rk:=right_kind c;have hi:=yc c
 have eq1:=fun w=>ut c ⟨c.client,c.kind,0,0,c.name⟩ w
 have eq2:=fun w=>ut c ⟨c.client,c.kind,0,c.job,empB⟩ w
 have eq3:=fun w=>ut c ⟨c.client,c.kind,0,0,empB⟩ w
 have eq4:=fun w=>ut c ⟨c.client,c.kind,c.slot,0,empB⟩ w
 have b1:eqC c ⟨c.client,c.kind,0,0,c.name⟩=(c.slot==0&&c.job==0):=by simp[eqC]
 have b2:eqC c ⟨c.client,c.kind,0,c.job,empB⟩=(c.slot==0&&emp c.name):=by simp[eqC,emp,empB]
 have b3:eqC c ⟨c.client,c.kind,0,0,empB⟩=((c.slot==0&&c.job==0)&&emp c.name):=by simp[eqC,emp,empB,Bool.and_assoc]
 have b4:eqC c ⟨c.client,c.kind,c.slot,0,empB⟩=(c.job==0&&emp c.name):=by simp[eqC,emp,empB]
 rw[b1]at eq1;rw[b2]at eq2;rw[b3]at eq3;rw[b4]at eq4;clear b1 b2 b3 b4;unfold Cl.val;obtain⟨R,hR⟩:∃R,y3 c=R:=⟨_,rfl⟩;rw[hR]at rk ⊢;generalize hC:c.cells=C at *;generalize c.client=cl at *;generalize c.slot=sl at *;generalize c.job=jo at *;generalize c.name=na at *;generalize c.kind=kd at *;have HA:=za ha;have HI:=za hi;have KN:=za kN;have RK:=za rk;have H0:=za h0;have EQ1:=za eq1;have EQ2:=za eq2;have EQ3:=za eq3;have EQ4:=za eq4;have HCF:=za hcf;obtain⟨e0,e1,e2,e3,e4⟩:=e0;obtain⟨p0,p1,p2,p3,p4⟩:=p0;clear hcf ha hi kN rk h0 h eq1 eq2 eq3 eq4 t ok hR hC
 by_cases k1:kd=1
 ·subst k1
  have hR:=RK.out 1 rfl;rw[if_pos (by decide)]at hR;obtain⟨E,hE0⟩:∃E,(sl==0&&jo==0)=E:=⟨_,rfl⟩;have qe:=EQ1.out;rw[hE0]at hR qe;clear hE0 RK EQ1 EQ2 EQ3 EQ4
  by_cases hB:k7 na=true
  ·rw[hB]at KN
   by_cases hE:E=true
   ·subst hE
    by_cases c0:0≤cl
    ·by_cases c1:cl≤7
     ·have hR2:R=true:=by rw[hR];simp[*]
      clear hR;subst hR2;have h4:=HA.out #[Value.int .i64 cl,.int .i64 1,.int .i64 0,.int .i64 0,.string na];obtain⟨x0,x1,x2,x3,x4⟩:=HCF.out _ _ h4 (by simp);have HX:Hid (St W ((w.alloc (.cells C 50)).alloc (.cells #[Value.int .i64 cl,.int .i64 1,.int .i64 0,.int .i64 0,.string na] 50)) I ((w.heap.size+1,.cells (⟨cl,1,0,0,na⟩:Cl).cells 50 (0,0))::(w.heap.size,.cells C 50 (0,0))::F)):=za h4;clear h4 H0
      go_enter Tryz.func39,Tryz.ntmps39
      go_wp2_with fail;refine(KN.out _ _ HX.out).mono ?_;rintro e w5 ⟨rfl,h5⟩;obtain⟨v0,v1,v2,v3,v4⟩:=HCF.out _ _ h5 (by simp);clear HX KN e0 e1 e2 e3 e4 x0 x1 x2 x3 x4 p0 p1 p2 p3 p4;have HX:=za h5;clear h5;have HD:=za (yc (⟨cl,1,0,0,na⟩:Cl))
      go_wp2_with (first|(refine zj (by rfl) 50 (.tmp 1) rfl (g:=w.heap.size) (off:=0) rfl HX.out (cs:=C) (t:=50) (fr:=(0,0)) (by simp) C (fun j hj=>by rw[Nat.zero_add]) _ Tryz.underlying50 rfl HI.out ?_)|(refine zj (by rfl) 50 (.tmp 3) rfl (g:=w.heap.size+1) (off:=0) rfl HX.out (cs:=(⟨cl,1,0,0,na⟩:Cl).cells) (t:=50) (fr:=(0,0)) (by simp) (⟨cl,1,0,0,na⟩:Cl).cells (fun j hj=>by rw[Nat.zero_add]) _ Tryz.underlying50 rfl HD.out ?_))
      go_ret;exact⟨by (show Ending.returned (Value.bool (decide (cl < 8)))=_;simp;omega),St.weaken (A:=[_,_]) HX.out⟩
     ·have hR2:R=false:=by rw[hR];simp[decide_eq_false c1]
      clear hR;subst hR2;have h4:=HA.out #[Value.int .i64 cl,.int .i64 1,.int .i64 0,.int .i64 0,.string na];obtain⟨x0,x1,x2,x3,x4⟩:=HCF.out _ _ h4 (by simp);have HX:Hid (St W ((w.alloc (.cells C 50)).alloc (.cells #[Value.int .i64 cl,.int .i64 1,.int .i64 0,.int .i64 0,.string na] 50)) I ((w.heap.size+1,.cells (⟨cl,1,0,0,na⟩:Cl).cells 50 (0,0))::(w.heap.size,.cells C 50 (0,0))::F)):=za h4;clear h4 H0
      go_enter Tryz.func39,Tryz.ntmps39
      go_wp2_with fail;refine(KN.out _ _ HX.out).mono ?_;rintro e w5 ⟨rfl,h5⟩;obtain⟨v0,v1,v2,v3,v4⟩:=HCF.out _ _ h5 (by simp);clear HX KN e0 e1 e2 e3 e4 x0 x1 x2 x3 x4 p0 p1 p2 p3 p4;have HX:=za h5;clear h5;have HD:=za (yc (⟨cl,1,0,0,na⟩:Cl))
      go_wp2_with (first|(refine zj (by rfl) 50 (.tmp 1) rfl (g:=w.heap.size) (off:=0) rfl HX.out (cs:=C) (t:=50) (fr:=(0,0)) (by simp) C (fun j hj=>by rw[Nat.zero_add]) _ Tryz.underlying50 rfl HI.out ?_)|(refine zj (by rfl) 50 (.tmp 3) rfl (g:=w.heap.size+1) (off:=0) rfl HX.out (cs:=(⟨cl,1,0,0,na⟩:Cl).cells) (t:=50) (fr:=(0,0)) (by simp) (⟨cl,1,0,0,na⟩:Cl).cells (fun j hj=>by rw[Nat.zero_add]) _ Tryz.underlying50 rfl HD.out ?_))
      go_ret;exact⟨by (show Ending.returned (Value.bool (decide (cl < 8)))=_;simp;omega),St.weaken (A:=[_,_]) HX.out⟩
    ·have hR2:R=false:=by rw[hR];simp[decide_eq_false c0]
     clear hR;subst hR2;have h4:=HA.out #[Value.int .i64 cl,.int .i64 1,.int .i64 0,.int .i64 0,.string na];obtain⟨x0,x1,x2,x3,x4⟩:=HCF.out _ _ h4 (by simp);have HX:Hid (St W ((w.alloc (.cells C 50)).alloc (.cells #[Value.int .i64 cl,.int .i64 1,.int .i64 0,.int .i64 0,.string na] 50)) I ((w.heap.size+1,.cells (⟨cl,1,0,0,na⟩:Cl).cells 50 (0,0))::(w.heap.size,.cells C 50 (0,0))::F)):=za h4;clear h4 H0
     go_enter Tryz.func39,Tryz.ntmps39
     go_wp2_with fail;refine(KN.out _ _ HX.out).mono ?_;rintro e w5 ⟨rfl,h5⟩;obtain⟨v0,v1,v2,v3,v4⟩:=HCF.out _ _ h5 (by simp);clear HX KN e0 e1 e2 e3 e4 x0 x1 x2 x3 x4 p0 p1 p2 p3 p4;have HX:=za h5;clear h5;have HD:=za (yc (⟨cl,1,0,0,na⟩:Cl))
     go_wp2_with (first|(refine zj (by rfl) 50 (.tmp 1) rfl (g:=w.heap.size) (off:=0) rfl HX.out (cs:=C) (t:=50) (fr:=(0,0)) (by simp) C (fun j hj=>by rw[Nat.zero_add]) _ Tryz.underlying50 rfl HI.out ?_)|(refine zj (by rfl) 50 (.tmp 3) rfl (g:=w.heap.size+1) (off:=0) rfl HX.out (cs:=(⟨cl,1,0,0,na⟩:Cl).cells) (t:=50) (fr:=(0,0)) (by simp) (⟨cl,1,0,0,na⟩:Cl).cells (fun j hj=>by rw[Nat.zero_add]) _ Tryz.underlying50 rfl HD.out ?_))
     go_ret;exact⟨by (rfl),St.weaken (A:=[_,_]) HX.out⟩
   ·have hE2:E=false:=by simpa using hE
    subst hE2
    have hR2:R=false:=by rw[hR];simp
    clear hR;subst hR2;have h4:=HA.out #[Value.int .i64 cl,.int .i64 1,.int .i64 0,.int .i64 0,.string na];obtain⟨x0,x1,x2,x3,x4⟩:=HCF.out _ _ h4 (by simp);have HX:Hid (St W ((w.alloc (.cells C 50)).alloc (.cells #[Value.int .i64 cl,.int .i64 1,.int .i64 0,.int .i64 0,.string na] 50)) I ((w.heap.size+1,.cells (⟨cl,1,0,0,na⟩:Cl).cells 50 (0,0))::(w.heap.size,.cells C 50 (0,0))::F)):=za h4;clear h4 H0
    go_enter Tryz.func39,Tryz.ntmps39
    go_wp2_with fail;refine(KN.out _ _ HX.out).mono ?_;rintro e w5 ⟨rfl,h5⟩;obtain⟨v0,v1,v2,v3,v4⟩:=HCF.out _ _ h5 (by simp);clear HX KN e0 e1 e2 e3 e4 x0 x1 x2 x3 x4 p0 p1 p2 p3 p4;have HX:=za h5;clear h5;have HD:=za (yc (⟨cl,1,0,0,na⟩:Cl))
    go_wp2_with (first|(refine zj (by rfl) 50 (.tmp 1) rfl (g:=w.heap.size) (off:=0) rfl HX.out (cs:=C) (t:=50) (fr:=(0,0)) (by simp) C (fun j hj=>by rw[Nat.zero_add]) _ Tryz.underlying50 rfl HI.out ?_)|(refine zj (by rfl) 50 (.tmp 3) rfl (g:=w.heap.size+1) (off:=0) rfl HX.out (cs:=(⟨cl,1,0,0,na⟩:Cl).cells) (t:=50) (fr:=(0,0)) (by simp) (⟨cl,1,0,0,na⟩:Cl).cells (fun j hj=>by rw[Nat.zero_add]) _ Tryz.underlying50 rfl HD.out ?_))
    go_ret;exact⟨by (rfl),St.weaken (A:=[_,_]) HX.out⟩
  ·have hB2:k7 na=false:=by simpa using hB
   rw[hB2]at KN
   have hR2:R=false:=by rw[hR];simp[hB2]
   clear hR;subst hR2;have h4:=HA.out #[Value.int .i64 cl,.int .i64 1,.int .i64 0,.int .i64 0,.string na];obtain⟨x0,x1,x2,x3,x4⟩:=HCF.out _ _ h4 (by simp);have HX:Hid (St W ((w.alloc (.cells C 50)).alloc (.cells #[Value.int .i64 cl,.int .i64 1,.int .i64 0,.int .i64 0,.string na] 50)) I ((w.heap.size+1,.cells (⟨cl,1,0,0,na⟩:Cl).cells 50 (0,0))::(w.heap.size,.cells C 50 (0,0))::F)):=za h4;clear h4 H0
   go_enter Tryz.func39,Tryz.ntmps39
   go_wp2_with fail;refine(KN.out _ _ HX.out).mono ?_;rintro e w5 ⟨rfl,h5⟩;obtain⟨v0,v1,v2,v3,v4⟩:=HCF.out _ _ h5 (by simp);clear HX KN e0 e1 e2 e3 e4 x0 x1 x2 x3 x4 p0 p1 p2 p3 p4;have HX:=za h5;clear h5;have HD:=za (yc (⟨cl,1,0,0,na⟩:Cl))
   go_wp2_with (fail)
   go_ret;exact⟨by (rfl),St.weaken (A:=[_,_]) HX.out⟩
 by_cases k2:kd=2
 ·subst k2
  have hR:=RK.out 2 rfl;rw[if_neg (by decide),if_pos (by decide)]at hR;obtain⟨E,hE0⟩:∃E,(sl==0&&emp na)=E:=⟨_,rfl⟩;have qe:=EQ2.out;rw[hE0]at hR qe;clear hE0 RK EQ1 EQ2 EQ3 EQ4
  by_cases j0:0≤jo
  ·by_cases j1:jo≤1073741824
   ·by_cases hE:E=true
    ·subst hE
     by_cases c0:0≤cl
     ·by_cases c1:cl≤7
      ·have hR2:R=true:=by rw[hR];simp[*]
       clear hR;subst hR2;have h4:=HA.out #[Value.int .i64 cl,.int .i64 2,.int .i64 0,.int .i64 jo,.string ⟨#[]⟩];obtain⟨x0,x1,x2,x3,x4⟩:=HCF.out _ _ h4 (by simp);have HX:Hid (St W ((w.alloc (.cells C 50)).alloc (.cells #[Value.int .i64 cl,.int .i64 2,.int .i64 0,.int .i64 jo,.string ⟨#[]⟩] 50)) I ((w.heap.size+1,.cells (⟨cl,2,0,jo,empB⟩:Cl).cells 50 (0,0))::(w.heap.size,.cells C 50 (0,0))::F)):=za h4;clear h4 H0
       go_enter Tryz.func39,Tryz.ntmps39
       have HD:=za (yc (⟨cl,2,0,jo,empB⟩:Cl))
       go_wp2_with (first|(refine zj (by rfl) 50 (.tmp 1) rfl (g:=w.heap.size) (off:=0) rfl HX.out (cs:=C) (t:=50) (fr:=(0,0)) (by simp) C (fun j hj=>by rw[Nat.zero_add]) _ Tryz.underlying50 rfl HI.out ?_)|(refine zj (by rfl) 50 (.tmp 3) rfl (g:=w.heap.size+1) (off:=0) rfl HX.out (cs:=(⟨cl,2,0,jo,empB⟩:Cl).cells) (t:=50) (fr:=(0,0)) (by simp) (⟨cl,2,0,jo,empB⟩:Cl).cells (fun j hj=>by rw[Nat.zero_add]) _ Tryz.underlying50 rfl HD.out ?_))
       go_ret;exact⟨by (show Ending.returned (Value.bool (decide (cl < 8)))=_;simp;omega),St.weaken (A:=[_,_]) HX.out⟩
      ·have hR2:R=false:=by rw[hR];simp[decide_eq_false c1]
       clear hR;subst hR2;have h4:=HA.out #[Value.int .i64 cl,.int .i64 2,.int .i64 0,.int .i64 jo,.string ⟨#[]⟩];obtain⟨x0,x1,x2,x3,x4⟩:=HCF.out _ _ h4 (by simp);have HX:Hid (St W ((w.alloc (.cells C 50)).alloc (.cells #[Value.int .i64 cl,.int .i64 2,.int .i64 0,.int .i64 jo,.string ⟨#[]⟩] 50)) I ((w.heap.size+1,.cells (⟨cl,2,0,jo,empB⟩:Cl).cells 50 (0,0))::(w.heap.size,.cells C 50 (0,0))::F)):=za h4;clear h4 H0
       go_enter Tryz.func39,Tryz.ntmps39
       have HD:=za (yc (⟨cl,2,0,jo,empB⟩:Cl))
       go_wp2_with (first|(refine zj (by rfl) 50 (.tmp 1) rfl (g:=w.heap.size) (off:=0) rfl HX.out (cs:=C) (t:=50) (fr:=(0,0)) (by simp) C (fun j hj=>by rw[Nat.zero_add]) _ Tryz.underlying50 rfl HI.out ?_)|(refine zj (by rfl) 50 (.tmp 3) rfl (g:=w.heap.size+1) (off:=0) rfl HX.out (cs:=(⟨cl,2,0,jo,empB⟩:Cl).cells) (t:=50) (fr:=(0,0)) (by simp) (⟨cl,2,0,jo,empB⟩:Cl).cells (fun j hj=>by rw[Nat.zero_add]) _ Tryz.underlying50 rfl HD.out ?_))
       go_ret;exact⟨by (show Ending.returned (Value.bool (decide (cl < 8)))=_;simp;omega),St.weaken (A:=[_,_]) HX.out⟩
     ·have hR2:R=false:=by rw[hR];simp[decide_eq_false c0]
      clear hR;subst hR2;have h4:=HA.out #[Value.int .i64 cl,.int .i64 2,.int .i64 0,.int .i64 jo,.string ⟨#[]⟩];obtain⟨x0,x1,x2,x3,x4⟩:=HCF.out _ _ h4 (by simp);have HX:Hid (St W ((w.alloc (.cells C 50)).alloc (.cells #[Value.int .i64 cl,.int .i64 2,.int .i64 0,.int .i64 jo,.string ⟨#[]⟩] 50)) I ((w.heap.size+1,.cells (⟨cl,2,0,jo,empB⟩:Cl).cells 50 (0,0))::(w.heap.size,.cells C 50 (0,0))::F)):=za h4;clear h4 H0
      go_enter Tryz.func39,Tryz.ntmps39
      have HD:=za (yc (⟨cl,2,0,jo,empB⟩:Cl))
      go_wp2_with (first|(refine zj (by rfl) 50 (.tmp 1) rfl (g:=w.heap.size) (off:=0) rfl HX.out (cs:=C) (t:=50) (fr:=(0,0)) (by simp) C (fun j hj=>by rw[Nat.zero_add]) _ Tryz.underlying50 rfl HI.out ?_)|(refine zj (by rfl) 50 (.tmp 3) rfl (g:=w.heap.size+1) (off:=0) rfl HX.out (cs:=(⟨cl,2,0,jo,empB⟩:Cl).cells) (t:=50) (fr:=(0,0)) (by simp) (⟨cl,2,0,jo,empB⟩:Cl).cells (fun j hj=>by rw[Nat.zero_add]) _ Tryz.underlying50 rfl HD.out ?_))
      go_ret;exact⟨by (rfl),St.weaken (A:=[_,_]) HX.out⟩
    ·have hE2:E=false:=by simpa using hE
     subst hE2
     have hR2:R=false:=by rw[hR];simp
     clear hR;subst hR2;have h4:=HA.out #[Value.int .i64 cl,.int .i64 2,.int .i64 0,.int .i64 jo,.string ⟨#[]⟩];obtain⟨x0,x1,x2,x3,x4⟩:=HCF.out _ _ h4 (by simp);have HX:Hid (St W ((w.alloc (.cells C 50)).alloc (.cells #[Value.int .i64 cl,.int .i64 2,.int .i64 0,.int .i64 jo,.string ⟨#[]⟩] 50)) I ((w.heap.size+1,.cells (⟨cl,2,0,jo,empB⟩:Cl).cells 50 (0,0))::(w.heap.size,.cells C 50 (0,0))::F)):=za h4;clear h4 H0
     go_enter Tryz.func39,Tryz.ntmps39
     have HD:=za (yc (⟨cl,2,0,jo,empB⟩:Cl))
     go_wp2_with (first|(refine zj (by rfl) 50 (.tmp 1) rfl (g:=w.heap.size) (off:=0) rfl HX.out (cs:=C) (t:=50) (fr:=(0,0)) (by simp) C (fun j hj=>by rw[Nat.zero_add]) _ Tryz.underlying50 rfl HI.out ?_)|(refine zj (by rfl) 50 (.tmp 3) rfl (g:=w.heap.size+1) (off:=0) rfl HX.out (cs:=(⟨cl,2,0,jo,empB⟩:Cl).cells) (t:=50) (fr:=(0,0)) (by simp) (⟨cl,2,0,jo,empB⟩:Cl).cells (fun j hj=>by rw[Nat.zero_add]) _ Tryz.underlying50 rfl HD.out ?_))
     go_ret;exact⟨by (rfl),St.weaken (A:=[_,_]) HX.out⟩
   ·have hR2:R=false:=by rw[hR];simp[decide_eq_false j1]
    clear hR;subst hR2;have h4:=HA.out #[Value.int .i64 cl,.int .i64 2,.int .i64 0,.int .i64 jo,.string ⟨#[]⟩];obtain⟨x0,x1,x2,x3,x4⟩:=HCF.out _ _ h4 (by simp);have HX:Hid (St W ((w.alloc (.cells C 50)).alloc (.cells #[Value.int .i64 cl,.int .i64 2,.int .i64 0,.int .i64 jo,.string ⟨#[]⟩] 50)) I ((w.heap.size+1,.cells (⟨cl,2,0,jo,empB⟩:Cl).cells 50 (0,0))::(w.heap.size,.cells C 50 (0,0))::F)):=za h4;clear h4 H0
    go_enter Tryz.func39,Tryz.ntmps39
    have HD:=za (yc (⟨cl,2,0,jo,empB⟩:Cl))
    go_wp2_with (fail)
    go_ret;exact⟨by (rfl),St.weaken (A:=[_,_]) HX.out⟩
  ·have hR2:R=false:=by rw[hR];simp[decide_eq_false j0]
   clear hR;subst hR2;have h4:=HA.out #[Value.int .i64 cl,.int .i64 2,.int .i64 0,.int .i64 jo,.string ⟨#[]⟩];obtain⟨x0,x1,x2,x3,x4⟩:=HCF.out _ _ h4 (by simp);have HX:Hid (St W ((w.alloc (.cells C 50)).alloc (.cells #[Value.int .i64 cl,.int .i64 2,.int .i64 0,.int .i64 jo,.string ⟨#[]⟩] 50)) I ((w.heap.size+1,.cells (⟨cl,2,0,jo,empB⟩:Cl).cells 50 (0,0))::(w.heap.size,.cells C 50 (0,0))::F)):=za h4;clear h4 H0
   go_enter Tryz.func39,Tryz.ntmps39
   have HD:=za (yc (⟨cl,2,0,jo,empB⟩:Cl))
   go_wp2_with (fail)
   go_ret;exact⟨by (rfl),St.weaken (A:=[_,_]) HX.out⟩
 by_cases k3:kd=3
 ·subst k3
  have hR:=RK.out 3 rfl;rw[if_neg (by decide),if_neg (by decide),if_pos (by decide)]at hR;obtain⟨E,hE0⟩:∃E,((sl==0&&jo==0)&&emp na)=E:=⟨_,rfl⟩;have qe:=EQ3.out;rw[hE0]at hR qe;clear hE0 RK EQ1 EQ2 EQ3 EQ4
  by_cases hE:E=true
  ·subst hE
   by_cases c0:0≤cl
   ·by_cases c1:cl≤7
    ·have hR2:R=true:=by rw[hR];simp[*]
     clear hR;subst hR2;have HX:Hid (St W ((w.alloc (.cells C 50)).alloc (.cells #[Value.int .i64 cl,.int .i64 3,.int .i64 0,.int .i64 0,.string ⟨#[]⟩] 50)) I ((w.heap.size+1,.cells (⟨cl,3,0,0,empB⟩:Cl).cells 50 (0,0))::(w.heap.size,.cells C 50 (0,0))::F)):=za H0.out;clear H0
     go_enter Tryz.func39,Tryz.ntmps39
     have HD:=za (yc (⟨cl,3,0,0,empB⟩:Cl))
     go_wp2_with (first|(refine zj (by rfl) 50 (.tmp 1) rfl (g:=w.heap.size) (off:=0) rfl HX.out (cs:=C) (t:=50) (fr:=(0,0)) (by simp) C (fun j hj=>by rw[Nat.zero_add]) _ Tryz.underlying50 rfl HI.out ?_)|(refine zj (by rfl) 50 (.tmp 3) rfl (g:=w.heap.size+1) (off:=0) rfl HX.out (cs:=(⟨cl,3,0,0,empB⟩:Cl).cells) (t:=50) (fr:=(0,0)) (by simp) (⟨cl,3,0,0,empB⟩:Cl).cells (fun j hj=>by rw[Nat.zero_add]) _ Tryz.underlying50 rfl HD.out ?_))
     go_ret;exact⟨by (show Ending.returned (Value.bool (decide (cl < 8)))=_;simp;omega),St.weaken (A:=[_,_]) HX.out⟩
    ·have hR2:R=false:=by rw[hR];simp[decide_eq_false c1]
     clear hR;subst hR2;have HX:Hid (St W ((w.alloc (.cells C 50)).alloc (.cells #[Value.int .i64 cl,.int .i64 3,.int .i64 0,.int .i64 0,.string ⟨#[]⟩] 50)) I ((w.heap.size+1,.cells (⟨cl,3,0,0,empB⟩:Cl).cells 50 (0,0))::(w.heap.size,.cells C 50 (0,0))::F)):=za H0.out;clear H0
     go_enter Tryz.func39,Tryz.ntmps39
     have HD:=za (yc (⟨cl,3,0,0,empB⟩:Cl))
     go_wp2_with (first|(refine zj (by rfl) 50 (.tmp 1) rfl (g:=w.heap.size) (off:=0) rfl HX.out (cs:=C) (t:=50) (fr:=(0,0)) (by simp) C (fun j hj=>by rw[Nat.zero_add]) _ Tryz.underlying50 rfl HI.out ?_)|(refine zj (by rfl) 50 (.tmp 3) rfl (g:=w.heap.size+1) (off:=0) rfl HX.out (cs:=(⟨cl,3,0,0,empB⟩:Cl).cells) (t:=50) (fr:=(0,0)) (by simp) (⟨cl,3,0,0,empB⟩:Cl).cells (fun j hj=>by rw[Nat.zero_add]) _ Tryz.underlying50 rfl HD.out ?_))
     go_ret;exact⟨by (show Ending.returned (Value.bool (decide (cl < 8)))=_;simp;omega),St.weaken (A:=[_,_]) HX.out⟩
   ·have hR2:R=false:=by rw[hR];simp[decide_eq_false c0]
    clear hR;subst hR2;have HX:Hid (St W ((w.alloc (.cells C 50)).alloc (.cells #[Value.int .i64 cl,.int .i64 3,.int .i64 0,.int .i64 0,.string ⟨#[]⟩] 50)) I ((w.heap.size+1,.cells (⟨cl,3,0,0,empB⟩:Cl).cells 50 (0,0))::(w.heap.size,.cells C 50 (0,0))::F)):=za H0.out;clear H0
    go_enter Tryz.func39,Tryz.ntmps39
    have HD:=za (yc (⟨cl,3,0,0,empB⟩:Cl))
    go_wp2_with (first|(refine zj (by rfl) 50 (.tmp 1) rfl (g:=w.heap.size) (off:=0) rfl HX.out (cs:=C) (t:=50) (fr:=(0,0)) (by simp) C (fun j hj=>by rw[Nat.zero_add]) _ Tryz.underlying50 rfl HI.out ?_)|(refine zj (by rfl) 50 (.tmp 3) rfl (g:=w.heap.size+1) (off:=0) rfl HX.out (cs:=(⟨cl,3,0,0,empB⟩:Cl).cells) (t:=50) (fr:=(0,0)) (by simp) (⟨cl,3,0,0,empB⟩:Cl).cells (fun j hj=>by rw[Nat.zero_add]) _ Tryz.underlying50 rfl HD.out ?_))
    go_ret;exact⟨by (rfl),St.weaken (A:=[_,_]) HX.out⟩
  ·have hE2:E=false:=by simpa using hE
   subst hE2
   have hR2:R=false:=by rw[hR];simp
   clear hR;subst hR2;have HX:Hid (St W ((w.alloc (.cells C 50)).alloc (.cells #[Value.int .i64 cl,.int .i64 3,.int .i64 0,.int .i64 0,.string ⟨#[]⟩] 50)) I ((w.heap.size+1,.cells (⟨cl,3,0,0,empB⟩:Cl).cells 50 (0,0))::(w.heap.size,.cells C 50 (0,0))::F)):=za H0.out;clear H0
   go_enter Tryz.func39,Tryz.ntmps39
   have HD:=za (yc (⟨cl,3,0,0,empB⟩:Cl))
   go_wp2_with (first|(refine zj (by rfl) 50 (.tmp 1) rfl (g:=w.heap.size) (off:=0) rfl HX.out (cs:=C) (t:=50) (fr:=(0,0)) (by simp) C (fun j hj=>by rw[Nat.zero_add]) _ Tryz.underlying50 rfl HI.out ?_)|(refine zj (by rfl) 50 (.tmp 3) rfl (g:=w.heap.size+1) (off:=0) rfl HX.out (cs:=(⟨cl,3,0,0,empB⟩:Cl).cells) (t:=50) (fr:=(0,0)) (by simp) (⟨cl,3,0,0,empB⟩:Cl).cells (fun j hj=>by rw[Nat.zero_add]) _ Tryz.underlying50 rfl HD.out ?_))
   go_ret;exact⟨by (rfl),St.weaken (A:=[_,_]) HX.out⟩
 by_cases k6:kd=6
 ·subst k6
  have hR:=RK.out 6 rfl;rw[if_neg (by decide),if_neg (by decide),if_pos (by decide)]at hR;obtain⟨E,hE0⟩:∃E,((sl==0&&jo==0)&&emp na)=E:=⟨_,rfl⟩;have qe:=EQ3.out;rw[hE0]at hR qe;clear hE0 RK EQ1 EQ2 EQ3 EQ4
  by_cases hE:E=true
  ·subst hE
   by_cases c0:0≤cl
   ·by_cases c1:cl≤7
    ·have hR2:R=true:=by rw[hR];simp[*]
     clear hR;subst hR2;have HX:Hid (St W ((w.alloc (.cells C 50)).alloc (.cells #[Value.int .i64 cl,.int .i64 6,.int .i64 0,.int .i64 0,.string ⟨#[]⟩] 50)) I ((w.heap.size+1,.cells (⟨cl,6,0,0,empB⟩:Cl).cells 50 (0,0))::(w.heap.size,.cells C 50 (0,0))::F)):=za H0.out;clear H0
     go_enter Tryz.func39,Tryz.ntmps39
     have HD:=za (yc (⟨cl,6,0,0,empB⟩:Cl))
     go_wp2_with (first|(refine zj (by rfl) 50 (.tmp 1) rfl (g:=w.heap.size) (off:=0) rfl HX.out (cs:=C) (t:=50) (fr:=(0,0)) (by simp) C (fun j hj=>by rw[Nat.zero_add]) _ Tryz.underlying50 rfl HI.out ?_)|(refine zj (by rfl) 50 (.tmp 3) rfl (g:=w.heap.size+1) (off:=0) rfl HX.out (cs:=(⟨cl,6,0,0,empB⟩:Cl).cells) (t:=50) (fr:=(0,0)) (by simp) (⟨cl,6,0,0,empB⟩:Cl).cells (fun j hj=>by rw[Nat.zero_add]) _ Tryz.underlying50 rfl HD.out ?_))
     go_ret;exact⟨by (show Ending.returned (Value.bool (decide (cl < 8)))=_;simp;omega),St.weaken (A:=[_,_]) HX.out⟩
    ·have hR2:R=false:=by rw[hR];simp[decide_eq_false c1]
     clear hR;subst hR2;have HX:Hid (St W ((w.alloc (.cells C 50)).alloc (.cells #[Value.int .i64 cl,.int .i64 6,.int .i64 0,.int .i64 0,.string ⟨#[]⟩] 50)) I ((w.heap.size+1,.cells (⟨cl,6,0,0,empB⟩:Cl).cells 50 (0,0))::(w.heap.size,.cells C 50 (0,0))::F)):=za H0.out;clear H0
     go_enter Tryz.func39,Tryz.ntmps39
     have HD:=za (yc (⟨cl,6,0,0,empB⟩:Cl))
     go_wp2_with (first|(refine zj (by rfl) 50 (.tmp 1) rfl (g:=w.heap.size) (off:=0) rfl HX.out (cs:=C) (t:=50) (fr:=(0,0)) (by simp) C (fun j hj=>by rw[Nat.zero_add]) _ Tryz.underlying50 rfl HI.out ?_)|(refine zj (by rfl) 50 (.tmp 3) rfl (g:=w.heap.size+1) (off:=0) rfl HX.out (cs:=(⟨cl,6,0,0,empB⟩:Cl).cells) (t:=50) (fr:=(0,0)) (by simp) (⟨cl,6,0,0,empB⟩:Cl).cells (fun j hj=>by rw[Nat.zero_add]) _ Tryz.underlying50 rfl HD.out ?_))
     go_ret;exact⟨by (show Ending.returned (Value.bool (decide (cl < 8)))=_;simp;omega),St.weaken (A:=[_,_]) HX.out⟩
   ·have hR2:R=false:=by rw[hR];simp[decide_eq_false c0]
    clear hR;subst hR2;have HX:Hid (St W ((w.alloc (.cells C 50)).alloc (.cells #[Value.int .i64 cl,.int .i64 6,.int .i64 0,.int .i64 0,.string ⟨#[]⟩] 50)) I ((w.heap.size+1,.cells (⟨cl,6,0,0,empB⟩:Cl).cells 50 (0,0))::(w.heap.size,.cells C 50 (0,0))::F)):=za H0.out;clear H0
    go_enter Tryz.func39,Tryz.ntmps39
    have HD:=za (yc (⟨cl,6,0,0,empB⟩:Cl))
    go_wp2_with (first|(refine zj (by rfl) 50 (.tmp 1) rfl (g:=w.heap.size) (off:=0) rfl HX.out (cs:=C) (t:=50) (fr:=(0,0)) (by simp) C (fun j hj=>by rw[Nat.zero_add]) _ Tryz.underlying50 rfl HI.out ?_)|(refine zj (by rfl) 50 (.tmp 3) rfl (g:=w.heap.size+1) (off:=0) rfl HX.out (cs:=(⟨cl,6,0,0,empB⟩:Cl).cells) (t:=50) (fr:=(0,0)) (by simp) (⟨cl,6,0,0,empB⟩:Cl).cells (fun j hj=>by rw[Nat.zero_add]) _ Tryz.underlying50 rfl HD.out ?_))
    go_ret;exact⟨by (rfl),St.weaken (A:=[_,_]) HX.out⟩
  ·have hE2:E=false:=by simpa using hE
   subst hE2
   have hR2:R=false:=by rw[hR];simp
   clear hR;subst hR2;have HX:Hid (St W ((w.alloc (.cells C 50)).alloc (.cells #[Value.int .i64 cl,.int .i64 6,.int .i64 0,.int .i64 0,.string ⟨#[]⟩] 50)) I ((w.heap.size+1,.cells (⟨cl,6,0,0,empB⟩:Cl).cells 50 (0,0))::(w.heap.size,.cells C 50 (0,0))::F)):=za H0.out;clear H0
   go_enter Tryz.func39,Tryz.ntmps39
   have HD:=za (yc (⟨cl,6,0,0,empB⟩:Cl))
   go_wp2_with (first|(refine zj (by rfl) 50 (.tmp 1) rfl (g:=w.heap.size) (off:=0) rfl HX.out (cs:=C) (t:=50) (fr:=(0,0)) (by simp) C (fun j hj=>by rw[Nat.zero_add]) _ Tryz.underlying50 rfl HI.out ?_)|(refine zj (by rfl) 50 (.tmp 3) rfl (g:=w.heap.size+1) (off:=0) rfl HX.out (cs:=(⟨cl,6,0,0,empB⟩:Cl).cells) (t:=50) (fr:=(0,0)) (by simp) (⟨cl,6,0,0,empB⟩:Cl).cells (fun j hj=>by rw[Nat.zero_add]) _ Tryz.underlying50 rfl HD.out ?_))
   go_ret;exact⟨by (rfl),St.weaken (A:=[_,_]) HX.out⟩
 by_cases k4:kd=4
 ·subst k4
  have hR:=RK.out 4 rfl;rw[if_neg (by decide),if_neg (by decide),if_neg (by decide),if_pos (by decide)]at hR;obtain⟨E,hE0⟩:∃E,(jo==0&&emp na)=E:=⟨_,rfl⟩;have qe:=EQ4.out;rw[hE0]at hR qe;clear hE0 RK EQ1 EQ2 EQ3 EQ4
  by_cases s0:0≤sl
  ·by_cases s1:sl≤255
   ·by_cases hE:E=true
    ·subst hE
     by_cases c0:0≤cl
     ·by_cases c1:cl≤7
      ·have hR2:R=true:=by rw[hR];simp[*]
       clear hR;subst hR2;have h4:=HA.out #[Value.int .i64 cl,.int .i64 4,.int .i64 sl,.int .i64 0,.string ⟨#[]⟩];obtain⟨x0,x1,x2,x3,x4⟩:=HCF.out _ _ h4 (by simp);have HX:Hid (St W ((w.alloc (.cells C 50)).alloc (.cells #[Value.int .i64 cl,.int .i64 4,.int .i64 sl,.int .i64 0,.string ⟨#[]⟩] 50)) I ((w.heap.size+1,.cells (⟨cl,4,sl,0,empB⟩:Cl).cells 50 (0,0))::(w.heap.size,.cells C 50 (0,0))::F)):=za h4;clear h4 H0
       go_enter Tryz.func39,Tryz.ntmps39
       have HD:=za (yc (⟨cl,4,sl,0,empB⟩:Cl))
       go_wp2_with (first|(refine zj (by rfl) 50 (.tmp 1) rfl (g:=w.heap.size) (off:=0) rfl HX.out (cs:=C) (t:=50) (fr:=(0,0)) (by simp) C (fun j hj=>by rw[Nat.zero_add]) _ Tryz.underlying50 rfl HI.out ?_)|(refine zj (by rfl) 50 (.tmp 3) rfl (g:=w.heap.size+1) (off:=0) rfl HX.out (cs:=(⟨cl,4,sl,0,empB⟩:Cl).cells) (t:=50) (fr:=(0,0)) (by simp) (⟨cl,4,sl,0,empB⟩:Cl).cells (fun j hj=>by rw[Nat.zero_add]) _ Tryz.underlying50 rfl HD.out ?_))
       go_ret;exact⟨by (show Ending.returned (Value.bool (decide (cl < 8)))=_;simp;omega),St.weaken (A:=[_,_]) HX.out⟩
      ·have hR2:R=false:=by rw[hR];simp[decide_eq_false c1]
       clear hR;subst hR2;have h4:=HA.out #[Value.int .i64 cl,.int .i64 4,.int .i64 sl,.int .i64 0,.string ⟨#[]⟩];obtain⟨x0,x1,x2,x3,x4⟩:=HCF.out _ _ h4 (by simp);have HX:Hid (St W ((w.alloc (.cells C 50)).alloc (.cells #[Value.int .i64 cl,.int .i64 4,.int .i64 sl,.int .i64 0,.string ⟨#[]⟩] 50)) I ((w.heap.size+1,.cells (⟨cl,4,sl,0,empB⟩:Cl).cells 50 (0,0))::(w.heap.size,.cells C 50 (0,0))::F)):=za h4;clear h4 H0
       go_enter Tryz.func39,Tryz.ntmps39
       have HD:=za (yc (⟨cl,4,sl,0,empB⟩:Cl))
       go_wp2_with (first|(refine zj (by rfl) 50 (.tmp 1) rfl (g:=w.heap.size) (off:=0) rfl HX.out (cs:=C) (t:=50) (fr:=(0,0)) (by simp) C (fun j hj=>by rw[Nat.zero_add]) _ Tryz.underlying50 rfl HI.out ?_)|(refine zj (by rfl) 50 (.tmp 3) rfl (g:=w.heap.size+1) (off:=0) rfl HX.out (cs:=(⟨cl,4,sl,0,empB⟩:Cl).cells) (t:=50) (fr:=(0,0)) (by simp) (⟨cl,4,sl,0,empB⟩:Cl).cells (fun j hj=>by rw[Nat.zero_add]) _ Tryz.underlying50 rfl HD.out ?_))
       go_ret;exact⟨by (show Ending.returned (Value.bool (decide (cl < 8)))=_;simp;omega),St.weaken (A:=[_,_]) HX.out⟩
     ·have hR2:R=false:=by rw[hR];simp[decide_eq_false c0]
      clear hR;subst hR2;have h4:=HA.out #[Value.int .i64 cl,.int .i64 4,.int .i64 sl,.int .i64 0,.string ⟨#[]⟩];obtain⟨x0,x1,x2,x3,x4⟩:=HCF.out _ _ h4 (by simp);have HX:Hid (St W ((w.alloc (.cells C 50)).alloc (.cells #[Value.int .i64 cl,.int .i64 4,.int .i64 sl,.int .i64 0,.string ⟨#[]⟩] 50)) I ((w.heap.size+1,.cells (⟨cl,4,sl,0,empB⟩:Cl).cells 50 (0,0))::(w.heap.size,.cells C 50 (0,0))::F)):=za h4;clear h4 H0
      go_enter Tryz.func39,Tryz.ntmps39
      have HD:=za (yc (⟨cl,4,sl,0,empB⟩:Cl))
      go_wp2_with (first|(refine zj (by rfl) 50 (.tmp 1) rfl (g:=w.heap.size) (off:=0) rfl HX.out (cs:=C) (t:=50) (fr:=(0,0)) (by simp) C (fun j hj=>by rw[Nat.zero_add]) _ Tryz.underlying50 rfl HI.out ?_)|(refine zj (by rfl) 50 (.tmp 3) rfl (g:=w.heap.size+1) (off:=0) rfl HX.out (cs:=(⟨cl,4,sl,0,empB⟩:Cl).cells) (t:=50) (fr:=(0,0)) (by simp) (⟨cl,4,sl,0,empB⟩:Cl).cells (fun j hj=>by rw[Nat.zero_add]) _ Tryz.underlying50 rfl HD.out ?_))
      go_ret;exact⟨by (rfl),St.weaken (A:=[_,_]) HX.out⟩
    ·have hE2:E=false:=by simpa using hE
     subst hE2
     have hR2:R=false:=by rw[hR];simp
     clear hR;subst hR2;have h4:=HA.out #[Value.int .i64 cl,.int .i64 4,.int .i64 sl,.int .i64 0,.string ⟨#[]⟩];obtain⟨x0,x1,x2,x3,x4⟩:=HCF.out _ _ h4 (by simp);have HX:Hid (St W ((w.alloc (.cells C 50)).alloc (.cells #[Value.int .i64 cl,.int .i64 4,.int .i64 sl,.int .i64 0,.string ⟨#[]⟩] 50)) I ((w.heap.size+1,.cells (⟨cl,4,sl,0,empB⟩:Cl).cells 50 (0,0))::(w.heap.size,.cells C 50 (0,0))::F)):=za h4;clear h4 H0
     go_enter Tryz.func39,Tryz.ntmps39
     have HD:=za (yc (⟨cl,4,sl,0,empB⟩:Cl))
     go_wp2_with (first|(refine zj (by rfl) 50 (.tmp 1) rfl (g:=w.heap.size) (off:=0) rfl HX.out (cs:=C) (t:=50) (fr:=(0,0)) (by simp) C (fun j hj=>by rw[Nat.zero_add]) _ Tryz.underlying50 rfl HI.out ?_)|(refine zj (by rfl) 50 (.tmp 3) rfl (g:=w.heap.size+1) (off:=0) rfl HX.out (cs:=(⟨cl,4,sl,0,empB⟩:Cl).cells) (t:=50) (fr:=(0,0)) (by simp) (⟨cl,4,sl,0,empB⟩:Cl).cells (fun j hj=>by rw[Nat.zero_add]) _ Tryz.underlying50 rfl HD.out ?_))
     go_ret;exact⟨by (rfl),St.weaken (A:=[_,_]) HX.out⟩
   ·have hR2:R=false:=by rw[hR];simp[decide_eq_false s1]
    clear hR;subst hR2;have h4:=HA.out #[Value.int .i64 cl,.int .i64 4,.int .i64 sl,.int .i64 0,.string ⟨#[]⟩];obtain⟨x0,x1,x2,x3,x4⟩:=HCF.out _ _ h4 (by simp);have HX:Hid (St W ((w.alloc (.cells C 50)).alloc (.cells #[Value.int .i64 cl,.int .i64 4,.int .i64 sl,.int .i64 0,.string ⟨#[]⟩] 50)) I ((w.heap.size+1,.cells (⟨cl,4,sl,0,empB⟩:Cl).cells 50 (0,0))::(w.heap.size,.cells C 50 (0,0))::F)):=za h4;clear h4 H0
    go_enter Tryz.func39,Tryz.ntmps39
    have HD:=za (yc (⟨cl,4,sl,0,empB⟩:Cl))
    go_wp2_with (fail)
    go_ret;exact⟨by (rfl),St.weaken (A:=[_,_]) HX.out⟩
  ·have hR2:R=false:=by rw[hR];simp[decide_eq_false s0]
   clear hR;subst hR2;have h4:=HA.out #[Value.int .i64 cl,.int .i64 4,.int .i64 sl,.int .i64 0,.string ⟨#[]⟩];obtain⟨x0,x1,x2,x3,x4⟩:=HCF.out _ _ h4 (by simp);have HX:Hid (St W ((w.alloc (.cells C 50)).alloc (.cells #[Value.int .i64 cl,.int .i64 4,.int .i64 sl,.int .i64 0,.string ⟨#[]⟩] 50)) I ((w.heap.size+1,.cells (⟨cl,4,sl,0,empB⟩:Cl).cells 50 (0,0))::(w.heap.size,.cells C 50 (0,0))::F)):=za h4;clear h4 H0
   go_enter Tryz.func39,Tryz.ntmps39
   have HD:=za (yc (⟨cl,4,sl,0,empB⟩:Cl))
   go_wp2_with (fail)
   go_ret;exact⟨by (rfl),St.weaken (A:=[_,_]) HX.out⟩
 by_cases k5:kd=5
 ·subst k5
  have hR:=RK.out 5 rfl;rw[if_neg (by decide),if_neg (by decide),if_neg (by decide),if_pos (by decide)]at hR;obtain⟨E,hE0⟩:∃E,(jo==0&&emp na)=E:=⟨_,rfl⟩;have qe:=EQ4.out;rw[hE0]at hR qe;clear hE0 RK EQ1 EQ2 EQ3 EQ4
  by_cases s0:0≤sl
  ·by_cases s1:sl≤255
   ·by_cases hE:E=true
    ·subst hE
     by_cases c0:0≤cl
     ·by_cases c1:cl≤7
      ·have hR2:R=true:=by rw[hR];simp[*]
       clear hR;subst hR2;have h4:=HA.out #[Value.int .i64 cl,.int .i64 5,.int .i64 sl,.int .i64 0,.string ⟨#[]⟩];obtain⟨x0,x1,x2,x3,x4⟩:=HCF.out _ _ h4 (by simp);have HX:Hid (St W ((w.alloc (.cells C 50)).alloc (.cells #[Value.int .i64 cl,.int .i64 5,.int .i64 sl,.int .i64 0,.string ⟨#[]⟩] 50)) I ((w.heap.size+1,.cells (⟨cl,5,sl,0,empB⟩:Cl).cells 50 (0,0))::(w.heap.size,.cells C 50 (0,0))::F)):=za h4;clear h4 H0
       go_enter Tryz.func39,Tryz.ntmps39
       have HD:=za (yc (⟨cl,5,sl,0,empB⟩:Cl))
       go_wp2_with (first|(refine zj (by rfl) 50 (.tmp 1) rfl (g:=w.heap.size) (off:=0) rfl HX.out (cs:=C) (t:=50) (fr:=(0,0)) (by simp) C (fun j hj=>by rw[Nat.zero_add]) _ Tryz.underlying50 rfl HI.out ?_)|(refine zj (by rfl) 50 (.tmp 3) rfl (g:=w.heap.size+1) (off:=0) rfl HX.out (cs:=(⟨cl,5,sl,0,empB⟩:Cl).cells) (t:=50) (fr:=(0,0)) (by simp) (⟨cl,5,sl,0,empB⟩:Cl).cells (fun j hj=>by rw[Nat.zero_add]) _ Tryz.underlying50 rfl HD.out ?_))
       go_ret;exact⟨by (show Ending.returned (Value.bool (decide (cl < 8)))=_;simp;omega),St.weaken (A:=[_,_]) HX.out⟩
      ·have hR2:R=false:=by rw[hR];simp[decide_eq_false c1]
       clear hR;subst hR2;have h4:=HA.out #[Value.int .i64 cl,.int .i64 5,.int .i64 sl,.int .i64 0,.string ⟨#[]⟩];obtain⟨x0,x1,x2,x3,x4⟩:=HCF.out _ _ h4 (by simp);have HX:Hid (St W ((w.alloc (.cells C 50)).alloc (.cells #[Value.int .i64 cl,.int .i64 5,.int .i64 sl,.int .i64 0,.string ⟨#[]⟩] 50)) I ((w.heap.size+1,.cells (⟨cl,5,sl,0,empB⟩:Cl).cells 50 (0,0))::(w.heap.size,.cells C 50 (0,0))::F)):=za h4;clear h4 H0
       go_enter Tryz.func39,Tryz.ntmps39
       have HD:=za (yc (⟨cl,5,sl,0,empB⟩:Cl))
       go_wp2_with (first|(refine zj (by rfl) 50 (.tmp 1) rfl (g:=w.heap.size) (off:=0) rfl HX.out (cs:=C) (t:=50) (fr:=(0,0)) (by simp) C (fun j hj=>by rw[Nat.zero_add]) _ Tryz.underlying50 rfl HI.out ?_)|(refine zj (by rfl) 50 (.tmp 3) rfl (g:=w.heap.size+1) (off:=0) rfl HX.out (cs:=(⟨cl,5,sl,0,empB⟩:Cl).cells) (t:=50) (fr:=(0,0)) (by simp) (⟨cl,5,sl,0,empB⟩:Cl).cells (fun j hj=>by rw[Nat.zero_add]) _ Tryz.underlying50 rfl HD.out ?_))
       go_ret;exact⟨by (show Ending.returned (Value.bool (decide (cl < 8)))=_;simp;omega),St.weaken (A:=[_,_]) HX.out⟩
     ·have hR2:R=false:=by rw[hR];simp[decide_eq_false c0]
      clear hR;subst hR2;have h4:=HA.out #[Value.int .i64 cl,.int .i64 5,.int .i64 sl,.int .i64 0,.string ⟨#[]⟩];obtain⟨x0,x1,x2,x3,x4⟩:=HCF.out _ _ h4 (by simp);have HX:Hid (St W ((w.alloc (.cells C 50)).alloc (.cells #[Value.int .i64 cl,.int .i64 5,.int .i64 sl,.int .i64 0,.string ⟨#[]⟩] 50)) I ((w.heap.size+1,.cells (⟨cl,5,sl,0,empB⟩:Cl).cells 50 (0,0))::(w.heap.size,.cells C 50 (0,0))::F)):=za h4;clear h4 H0
      go_enter Tryz.func39,Tryz.ntmps39
      have HD:=za (yc (⟨cl,5,sl,0,empB⟩:Cl))
      go_wp2_with (first|(refine zj (by rfl) 50 (.tmp 1) rfl (g:=w.heap.size) (off:=0) rfl HX.out (cs:=C) (t:=50) (fr:=(0,0)) (by simp) C (fun j hj=>by rw[Nat.zero_add]) _ Tryz.underlying50 rfl HI.out ?_)|(refine zj (by rfl) 50 (.tmp 3) rfl (g:=w.heap.size+1) (off:=0) rfl HX.out (cs:=(⟨cl,5,sl,0,empB⟩:Cl).cells) (t:=50) (fr:=(0,0)) (by simp) (⟨cl,5,sl,0,empB⟩:Cl).cells (fun j hj=>by rw[Nat.zero_add]) _ Tryz.underlying50 rfl HD.out ?_))
      go_ret;exact⟨by (rfl),St.weaken (A:=[_,_]) HX.out⟩
    ·have hE2:E=false:=by simpa using hE
     subst hE2
     have hR2:R=false:=by rw[hR];simp
     clear hR;subst hR2;have h4:=HA.out #[Value.int .i64 cl,.int .i64 5,.int .i64 sl,.int .i64 0,.string ⟨#[]⟩];obtain⟨x0,x1,x2,x3,x4⟩:=HCF.out _ _ h4 (by simp);have HX:Hid (St W ((w.alloc (.cells C 50)).alloc (.cells #[Value.int .i64 cl,.int .i64 5,.int .i64 sl,.int .i64 0,.string ⟨#[]⟩] 50)) I ((w.heap.size+1,.cells (⟨cl,5,sl,0,empB⟩:Cl).cells 50 (0,0))::(w.heap.size,.cells C 50 (0,0))::F)):=za h4;clear h4 H0
     go_enter Tryz.func39,Tryz.ntmps39
     have HD:=za (yc (⟨cl,5,sl,0,empB⟩:Cl))
     go_wp2_with (first|(refine zj (by rfl) 50 (.tmp 1) rfl (g:=w.heap.size) (off:=0) rfl HX.out (cs:=C) (t:=50) (fr:=(0,0)) (by simp) C (fun j hj=>by rw[Nat.zero_add]) _ Tryz.underlying50 rfl HI.out ?_)|(refine zj (by rfl) 50 (.tmp 3) rfl (g:=w.heap.size+1) (off:=0) rfl HX.out (cs:=(⟨cl,5,sl,0,empB⟩:Cl).cells) (t:=50) (fr:=(0,0)) (by simp) (⟨cl,5,sl,0,empB⟩:Cl).cells (fun j hj=>by rw[Nat.zero_add]) _ Tryz.underlying50 rfl HD.out ?_))
     go_ret;exact⟨by (rfl),St.weaken (A:=[_,_]) HX.out⟩
   ·have hR2:R=false:=by rw[hR];simp[decide_eq_false s1]
    clear hR;subst hR2;have h4:=HA.out #[Value.int .i64 cl,.int .i64 5,.int .i64 sl,.int .i64 0,.string ⟨#[]⟩];obtain⟨x0,x1,x2,x3,x4⟩:=HCF.out _ _ h4 (by simp);have HX:Hid (St W ((w.alloc (.cells C 50)).alloc (.cells #[Value.int .i64 cl,.int .i64 5,.int .i64 sl,.int .i64 0,.string ⟨#[]⟩] 50)) I ((w.heap.size+1,.cells (⟨cl,5,sl,0,empB⟩:Cl).cells 50 (0,0))::(w.heap.size,.cells C 50 (0,0))::F)):=za h4;clear h4 H0
    go_enter Tryz.func39,Tryz.ntmps39
    have HD:=za (yc (⟨cl,5,sl,0,empB⟩:Cl))
    go_wp2_with (fail)
    go_ret;exact⟨by (rfl),St.weaken (A:=[_,_]) HX.out⟩
  ·have hR2:R=false:=by rw[hR];simp[decide_eq_false s0]
   clear hR;subst hR2;have h4:=HA.out #[Value.int .i64 cl,.int .i64 5,.int .i64 sl,.int .i64 0,.string ⟨#[]⟩];obtain⟨x0,x1,x2,x3,x4⟩:=HCF.out _ _ h4 (by simp);have HX:Hid (St W ((w.alloc (.cells C 50)).alloc (.cells #[Value.int .i64 cl,.int .i64 5,.int .i64 sl,.int .i64 0,.string ⟨#[]⟩] 50)) I ((w.heap.size+1,.cells (⟨cl,5,sl,0,empB⟩:Cl).cells 50 (0,0))::(w.heap.size,.cells C 50 (0,0))::F)):=za h4;clear h4 H0
   go_enter Tryz.func39,Tryz.ntmps39
   have HD:=za (yc (⟨cl,5,sl,0,empB⟩:Cl))
   go_wp2_with (fail)
   go_ret;exact⟨by (rfl),St.weaken (A:=[_,_]) HX.out⟩
 have hR:R=false:=by
  rw[RK.out kd rfl,if_neg k1,if_neg k2,if_neg (by omega),if_neg (by omega)]
  simp
 subst hR;clear RK EQ1 EQ2 EQ3 EQ4 KN
 go_enter Tryz.func39,Tryz.ntmps39
 go_wp2_with fail;go_ret;exact⟨rfl,St.weaken (A:=[_,_]) H0.out⟩
end
end Go.Proofs.YtnjnooeldkideaaGreatDoor
