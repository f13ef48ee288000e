/- slot: the document's Right: walk. A struct of thirty-two bytes and more, built. -/
import Derived.Test.YtnjnooeldkideaaGreatDoorMParts
import Derived.Deep.DeepCutAuto
namespace Go.Proofs.YtnjnooeldkideaaGreatDoor
set_option maxRecDepth 100000
set_option maxHeartbeats 8000000
section
set_option linter.unusedVariables false
set_option linter.unusedSimpArgs false
open Go.RowKit Go.Lib
section
variable {W w:World} {I:Nat→Option Obj} {F:List (Nat × Obj)}
theorem j9 (s:Slt) (ok:s.Ok) (h:St W w I F) :
  Calls Tryz.prog 56 #[s.val] w fun e w'=>e=.returned (.bool (rightS s))∧St W w' I F:=by
 have h0:=h.alloc (.cells s.cells 26);obtain⟨b,hb⟩:∃b,w.heap.size=b:=⟨_,rfl⟩;rw[hb]at h0;obtain⟨c0,c1,c2,c3⟩:=h0.slt
 have hq:∀w,(Op.equalIn 10000 24 (.agg (bcells s.dig)) (.agg (bcells zeros32))).run Tryz.prog w=.ok (s.dig==zeros32) w:=fun w=>eq_bcells _ _ ok.dig zn w
 rw[zeros_cells,zero32_cells]at hq;have HMI:Hid ((Tryz.prog.info? 24).map (·.size)=some (bcells s.dig).size):=za (by rw[um,ok.dig];kernel_rfl)
 have hg4:∀j,j < (bcells s.dig).size→s.cells[4+j]?=(bcells s.dig)[j]?:=fun j hj=>by rw[Slt.at4];unfold bcells;rw[List.getElem?_toArray]
 have HG4:=za hg4;obtain⟨q1,q2,q3,q4,q5,q6,q7,q8,q9⟩:=ok;have hr:=rightS.eq_1 s;have hi:=imgS.eq_1 s;have hn:=noneS.eq_1 s;unfold Slt.val;generalize noneS s=N at *;generalize imgS s=M at *;generalize rightS s=R at *;generalize s.cells=C at *;generalize bcells s.dig=D at *;generalize (s.dig==zeros32)=Z at *;generalize s.st=st at *;generalize s.tr=tr at *;generalize s.ver=ver at *;generalize s.sz=sz at *;have H0:=za h0;have HR:=za hr;have HI:=za hi;have HN:=za hn;clear h0 h hr hi hg4 hn q1
 go_enter Tryz.func56,Tryz.ntmps56
 go_upto_region 1 with fail
 go_cut [3] (fun s3 wx=>s3=.bool N∧wx=w.alloc (.cells C 26))
 case first=>
  by_cases n1:tr=0
  ·subst n1
   by_cases n2:ver=0
   ·subst n2
    by_cases n3:sz=0
    ·subst n3
     have hN:N=Z:=by rw[HN.out];simp
     subst hN;clear HN
     go_wp2_with (refine zj (by rfl) 24 (.tmp 19) rfl (g:=b) (off:=4) rfl H0.out (cs:=C) (t:=26) (fr:=(0,0)) (by simp) D HG4.out _ Tryz.underlying24 rfl HMI.out ?_)
     go_meet;exact⟨rfl,rfl⟩
    ·have n3':(sz==0)=false:=beq_eq_false_iff_ne.2 n3
     have hN:N=false:=by rw[HN.out];simp[*]
     subst hN;clear HN;go_wp2_with fail;go_meet;exact⟨rfl,rfl⟩
   ·have n2':(ver==0)=false:=beq_eq_false_iff_ne.2 n2
    have hN:N=false:=by rw[HN.out];simp[*]
    subst hN;clear HN;go_wp2_with fail;go_meet;exact⟨rfl,rfl⟩
  ·have n1':(tr==0)=false:=beq_eq_false_iff_ne.2 n1
   have hN:N=false:=by rw[HN.out];simp[*]
   subst hN;clear HN;go_wp2_with fail;go_meet;exact⟨rfl,rfl⟩
 case rest=>
  obtain⟨rfl,rfl⟩:=hcut;clear hq HG4 HN
  go_upto_region 2 with fail
  go_cut [4] (fun s4 wx=>s4=.bool M∧wx=w.alloc (.cells C 26))
  case first=>
   by_cases i1:1≤ver
   ·by_cases i2:ver≤281474976710656
    ·by_cases i3:1≤sz
     ·by_cases i4:sz≤65536
      ·have hM:M=true:=by rw[HI.out];simp;omega
       subst hM;go_wp2_with fail;go_meet;exact⟨rfl,rfl⟩
      ·have hM:M=false:=by rw[HI.out];simp;omega
       subst hM;go_wp2_with fail;go_meet;exact⟨rfl,rfl⟩
     ·have hM:M=false:=by rw[HI.out];simp;omega
      subst hM;go_wp2_with fail;go_meet;exact⟨rfl,rfl⟩
    ·have hM:M=false:=by rw[HI.out];simp;omega
     subst hM;go_wp2_with fail;go_meet;exact⟨rfl,rfl⟩
   ·have hM:M=false:=by rw[HI.out];simp;omega
    subst hM;go_wp2_with fail;go_meet;exact⟨rfl,rfl⟩
  case rest=>
   obtain⟨rfl,rfl⟩:=hcut;clear HI
   by_cases k0:st=0
   ·subst k0
    have hR:R=N:=by rw[HR.out];simp
    subst hR;clear HR;go_wp2_with fail;go_ret;exact⟨rfl,St.weaken (A:=[_]) H0.out⟩
   by_cases k1:st=1
   ·subst k1
    have hR:R=N:=by rw[HR.out];simp
    subst hR;clear HR;go_wp2_with fail;go_ret;exact⟨rfl,St.weaken (A:=[_]) H0.out⟩
   by_cases k4:st=4
   ·subst k4
    have hR:R=N:=by rw[HR.out];simp
    subst hR;clear HR;go_wp2_with fail;go_ret;exact⟨rfl,St.weaken (A:=[_]) H0.out⟩
   have d0:(st==0)=false:=beq_eq_false_iff_ne.2 k0;have d1:(st==1)=false:=beq_eq_false_iff_ne.2 k1;have d4:(st==4)=false:=beq_eq_false_iff_ne.2 k4
   by_cases k2:st=2
   ·subst k2
    by_cases t0:0≤tr
    ·by_cases t7:tr≤7
     ·have hR:R=M:=by rw[HR.out];simp[t0,t7]
      subst hR;clear HR d0 d1 d4
      cases R
      all_goals
       go_wp2_with fail;go_ret;exact⟨rfl,St.weaken (A:=[_]) H0.out⟩
     ·have hR:R=false:=by rw[HR.out];simp[t0,t7]
      subst hR;clear HR d0 d1 d4
      cases M
      all_goals
       go_wp2_with fail;go_ret;exact⟨rfl,St.weaken (A:=[_]) H0.out⟩
    ·have hR:R=false:=by rw[HR.out];simp[t0]
     subst hR;clear HR d0 d1 d4
     cases M
     all_goals
      go_wp2_with fail;go_ret;exact⟨rfl,St.weaken (A:=[_]) H0.out⟩
   ·have d2:(st==2)=false:=beq_eq_false_iff_ne.2 k2
    by_cases k3:st=3
    ·subst k3
     by_cases t0:tr=0
     ·subst t0
      have hR:R=M:=by rw[HR.out];simp
      subst hR;clear HR d0 d1 d2 d4
      cases R
      all_goals
       go_wp2_with fail;go_ret;exact⟨rfl,St.weaken (A:=[_]) H0.out⟩
     ·have t1:(tr==0)=false:=beq_eq_false_iff_ne.2 t0
      have hR:R=false:=by rw[HR.out];simp[t1]
      subst hR;clear HR d0 d1 d2 d4
      cases M
      all_goals
       go_wp2_with fail;go_ret;exact⟨rfl,St.weaken (A:=[_]) H0.out⟩
    ·have d3:(st==3)=false:=beq_eq_false_iff_ne.2 k3
     have hR:R=false:=by rw[HR.out];simp[k0,k1,k2,k3,k4]
     subst hR;clear HR k0 k1 k2 k3 k4;go_wp2_with fail;go_ret;exact⟨rfl,St.weaken (A:=[_]) H0.out⟩
end
end

section
set_option linter.unusedVariables false
set_option linter.unusedSimpArgs false
open Go.RowKit Go.Lib
theorem jv {α:Type} (l:List α) (h:l.length=32):∃d0 d1 d2 d3 d4 d5 d6 d7 d8 d9 d10 d11 d12 d13 d14 d15 d16 d17 d18 d19 d20 d21 d22 d23 d24 d25 d26 d27 d28 d29 d30 d31,l=[d0,d1,d2,d3,d4,d5,d6,d7,d8,d9,d10,d11,d12,d13,d14,d15,d16,d17,d18,d19,d20,d21,d22,d23,d24,d25,d26,d27,d28,d29,d30,d31]:=by
 match l,h with
 | [d0,d1,d2,d3,d4,d5,d6,d7,d8,d9,d10,d11,d12,d13,d14,d15,d16,d17,d18,d19,d20,d21,d22,d23,d24,d25,d26,d27,d28,d29,d30,d31],_=>exact⟨d0,d1,d2,d3,d4,d5,d6,d7,d8,d9,d10,d11,d12,d13,d14,d15,d16,d17,d18,d19,d20,d21,d22,d23,d24,d25,d26,d27,d28,d29,d30,d31,rfl⟩
theorem wpList_build_st {P:Program} {w:World} {ops:Array Oper} {rest:List Oper} {o:Oper} {a:Act} {Q:Exit→Act→World→Prop} (hgd:o.guard=none) (t:TypeId) (ps:Array (Nat × Operand)) (ho:o.op=.build t ps)
  (vs:Array (Nat × Value)) (hvs:(ps.map fun(i,x)=>(i,a.eval x))=vs) {v:Value} (hr:(Instr.build t vs).run P w=.ok v w) (h:wpList P ops Q rest (a.put o.dst v) w):wpList P ops Q (o::rest) a w:=by
 refine wpList_plain hgd fun K hK=>?_
 subst hvs;unfold Oper.wp execOp;simp only[ho,Sem.run_bind,hr,Result.andThen_ok];exact hK _ _ h
end
end Go.Proofs.YtnjnooeldkideaaGreatDoor
