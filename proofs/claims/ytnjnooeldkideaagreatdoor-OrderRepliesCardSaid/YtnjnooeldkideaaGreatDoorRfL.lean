/- boot: the document's answers: what lands. -/
import Derived.Test.YtnjnooeldkideaaGreatDoorMRfW
import Derived.OwnWalk
namespace Go.Proofs.YtnjnooeldkideaaGreatDoor
set_option maxRecDepth 100000
set_option maxHeartbeats 8000000
set_option linter.unusedVariables false
set_option linter.unusedSimpArgs false
open Go.RowKit Go.Lib Go.Deep
section
variable {W w:World} {J:Nat→Option Obj} {t:Tb} {F:List (Nat × Obj)}
theorem ref12_land (ok:t.Ok) (i:Int) (s:Slt) (sok:s.Ok) (h:St W w J F):Calls Tryz.prog 63 #[t.val,.int .i64 i,s.val] w (CPost W J F (landT t i s)):=by
 have h1:=h.alloc (.cells t.cells 29);obtain⟨g,hg⟩:∃g,w.heap.size=g:=⟨_,rfl⟩;have h1:=h1.alloc (.cells s.cells 26);rw[World.size_alloc,hg]at h1
 have kR:=fun(v:World) (X:List (Nat × Obj)) (hv:St W v J X)=>jm t ok hv
 have fx:=fun(v:World) (X:List (Nat × Obj)) (hv:St W v J X) (hx:(g,Obj.cells t.cells 29 (0,0))∈X)=>hv.tb ok hx
 have ti:=z7 ok
 have cp:∀l x,landT t i s=(l,x)→∀v A c L,Row 147 40 (.slice A l.length c) l.length (cgs l) L→St W v J (L++F)→CPost W J F (landT t i s) (.returned (.tuple #[.slice A l.length c,.int .i64 x])) v:=fun l x h v A c L hr hv=>by rw[h];exact⟨A,c,L,rfl,hr,hv⟩
 have cp0:∀x,landT t i s=([],x)→∀v,St W v J F→CPost W J F (landT t i s) (.returned (.tuple #[.slice none 0 0,.int .i64 x])) v:=fun x h v hv=>cp [] x h v none 0 [] (Row.nil _ _) hv
 have kS:=fun(v:World) (X:List (Nat × Obj)) (hv:St W v J X)=>j9 s sok hv
 have si:=yg sok
 have qx:∀(v:World) (X:List (Nat × Obj)),St W v J X→(g+1,Obj.cells s.cells 26 (0,0))∈X→v.rangeAt (g+1) 0 s.cells.toList∧v.cell? ⟨g+1,0,none⟩=some (.int .i64 s.st):=fun v X hv hm=>⟨fun j u hj=>by rw[Nat.zero_add,hv.cell hm j];simpa using hj,hv.cell hm 0⟩
 have SOK:=za sok;unfold Slt.val at *;obtain⟨SX,hSX⟩:∃y,s.cells=y:=⟨_,rfl⟩;rw[hSX]at h1 kS si qx ⊢;obtain⟨sx,hsx⟩:∃y,s.st=y:=⟨_,rfl⟩;rw[hsx]at qx;obtain⟨RS,hRS⟩:∃y,rightS s=y:=⟨_,rfl⟩;rw[hRS]at kS;have KS:=za kS;have SI:=za si;have QX:=za qx;have HSX:=za hsx;have HRS:=za hRS;have HSC:=za hSX;clear kS si qx hsx hRS hSX sok;unfold Tb.val at *;obtain⟨C,hC⟩:∃C,t.cells=C:=⟨_,rfl⟩
 have FALL:Hid (∀v X,St W v J X→(g,Obj.cells C 29 (0,0))∈X→v.rangeAt g 0 C.toList∧TbAt v g t):=za fun v X hv hx=>by
  rw[←hC]at hx;have q:=fx v X hv hx;rw[←hC];exact⟨q.all,q⟩
 rw[hC]at h1 kR ti ⊢;obtain⟨V,hV⟩:∃y,zx t=y:=⟨_,rfl⟩;rw[hV]at kR;have HV:=za hV;have H1:=za h1;have KR:=za kR;have TI:=za ti;have CP:=za cp;have CP0:=za cp0;have OK:=za ok;clear h1 kR fx ti cp cp0 hC hV h ok
 have no:¬landC t i s→landT t i s=([],101):=fun h=>by unfold landT;rw[if_neg h]
 have NO:=za no;clear no;have QA:=za (FALL.out _ _ H1.out (by simp)).1
 go_enter Tryz.func63,Tryz.ntmps63
 go_wp2_with (with_reducible refine zb 8 rfl (by kernel_rfl) 29 (.tmp 3) rfl g 0 rfl C _ QA.out Tryz.underlying29 rfl TI.out ?_)
 refine(KR.out _ _ H1.out).mono ?_;rintro e w2 ⟨rfl,h2⟩;have ca:=(FALL.out _ _ h2 (by simp)).2.act;have c0:=(FALL.out _ _ h2 (by simp)).2.st0;have c1:=(FALL.out _ _ h2 (by simp)).2.st1;obtain⟨rsx,cx⟩:=QX.out _ _ h2 (by simp);obtain⟨ac,hac⟩:∃y,t.act=y:=⟨_,rfl⟩;obtain⟨st0,hst0⟩:∃y,t.s0.st=y:=⟨_,rfl⟩;obtain⟨st1,hst1⟩:∃y,t.s1.st=y:=⟨_,rfl⟩;rw[hac]at ca;rw[hst0]at c0;rw[hst1]at c1;have HAC:=za hac;have HS0:=za hst0;have HS1:=za hst1;have RSX:=za rsx;have H2:=za h2;clear h2 H1 QA hac hst0 hst1 rsx
 cases V with
 | false=>
  have HE:=za (CP0.out _ (NO.out fun h=>by have:=h.1;rw[HV.out]at this;cases this) _ (H2.out.weaken (A:=[_,_])));go_wp2_with fail
  go_ret2
  exact HE.out
 | true=>
  by_cases hi:i < 0
  ·have bi:decide (i < 0)=true:=by simpa using hi
   have HE:=za (CP0.out _ (NO.out fun h=>by have:=h.2.1;simp[ixB]at this;omega) _ (H2.out.weaken (A:=[_,_])));clear hi;go_wp2_with fail
   go_ret2
   exact HE.out
  ·have bi:decide (i < 0)=false:=by simpa using hi
   by_cases hb:1 < i
   ·have bb:decide (i > 1)=true:=by simpa using hb
    have HE:=za (CP0.out _ (NO.out fun h=>by have:=h.2.1;simp[ixB]at this;omega) _ (H2.out.weaken (A:=[_,_])));clear hb hi;go_wp2_with fail
    go_ret2
    exact HE.out
   ·have hx:i=0∨i=1:=by omega
    clear hi hb bi
    rcases hx with rfl|rfl
    ·by_cases hc:ac=0
     ·subst hc
      have bc:((0:Int)==0)=true:=rfl;have HE:=za (CP0.out _ (NO.out fun h=>h.2.2.1 HAC.out.symm) _ (H2.out.weaken (A:=[_,_])));go_wp2_with fail
      go_ret2
      exact HE.out
     ·have bc:((0:Int)==ac)=false:=by simp only[beq_eq_false_iff_ne,ne_eq];exact fun h=>hc h.symm
      have HNC:=za hc;clear hc
      by_cases h1:st0=1
      ·have b1:(st0 != 1)=false:=by simpa using h1
       have H1T:=za h1;clear h1
       by_cases h2:sx=2
       ·have b2:(sx != 2)=false:=by simpa using h2
        have H2T:=za h2;clear h2
        go_wp2_with (with_reducible refine zb 39 rfl (by kernel_rfl) 26 (.tmp 5) rfl (g+1) 0 rfl SX _ RSX.out Tryz.underlying26 rfl SI.out ?_)
        refine(KS.out _ _ H2.out).mono ?_;rintro e w3 ⟨rfl,h3⟩;have H3:=za h3;obtain⟨r9,-⟩:=QX.out _ _ h3 (by simp);have R9:=za r9;clear h3 r9 H2 RSX
        cases RS with
        | false=>
         have HE:=za (CP0.out _ (NO.out fun h=>by have:=h.2.2.2.2.1;rw[HRS.out]at this;cases this) _ (H3.out.weaken (A:=[_,_])));go_wp2_with fail
         go_ret2
         exact HE.out
        | true=>
         have HR:=za (show landT t 0 s=([setC 0 s,actC 0],0) by
          unfold landT
          rw[if_pos ⟨HV.out,rfl,fun h=>HNC.out (HAC.out.symm.trans h.symm),(show t.at_ 0=t.s0 from rfl) ▸ HS0.out.trans H1T.out,HRS.out,HSX.out.trans H2T.out⟩])
         have b1:=yx 0 s SOK.out;have b2:=ja 0;have ok1:(setC 0 s).tos.Ok:=SOK.out;have ok2:(actC 0).tos.Ok:=zS_ok;have b3:=run_bs_cg2 (setC 0 s) (actC 0) ok1 ok2
         have row:=fun(b:Nat)=>row_two (g:=b) ok1 ok2
         rw[HSC.out]at b1;obtain⟨C1,hC1⟩:∃y,(setC 0 s).cells=y:=⟨_,rfl⟩;obtain⟨C2,hC2⟩:∃y,(actC 0).cells=y:=⟨_,rfl⟩;rw[hC1]at b1 b3 row;rw[hC2]at b2 b3 row;have B1:=za b1;have B2:=za b2;have B3:=za b3;have ROW:=za row;clear b1 b2 b3 row hC1 hC2 ok1 ok2
         go_wp2_with (first|(with_reducible refine zb 44 rfl (by kernel_rfl) 26 (.tmp 5) rfl (g+1) 0 rfl SX _ R9.out Tryz.underlying26 rfl SI.out ?_)|(with_reducible refine zh rfl 147 _ rfl _ ?_ (B1.out _) ?_;·go_simp)|(with_reducible refine zh rfl 147 _ rfl _ ?_ (B2.out _) ?_;·go_simp)|(refine zw rfl 94 2 _ rfl _ (by kernel_rfl) B3.out H3.out ?_;intro b1 w5 h5;refine Hid.out ?_))
         refine za ?_;have HE:=za (CP.out _ _ HR.out _ _ _ _ (ROW.out b1) (St.mid (A:=[_]) (B:=[_,_]) h5));clear h5;go_wp2_with fail
         go_ret2
         exact HE.out
       ·have b2:(sx != 2)=true:=by simpa using h2
        have HE:=za (CP0.out _ (NO.out fun h=>h2 (HSX.out.symm.trans h.2.2.2.2.2)) _ (H2.out.weaken (A:=[_,_])));clear h2;go_wp2_with fail
        go_ret2
        exact HE.out
      ·have b1:(st0 != 1)=true:=by simpa using h1
       have HE:=za (CP0.out _ (NO.out fun h=>h1 (HS0.out.symm.trans h.2.2.2.1)) _ (H2.out.weaken (A:=[_,_])));clear h1;go_wp2_with fail
       go_ret2
       exact HE.out
    ·by_cases hc:ac=1
     ·subst hc
      have bc:((1:Int)==1)=true:=rfl;have HE:=za (CP0.out _ (NO.out fun h=>h.2.2.1 HAC.out.symm) _ (H2.out.weaken (A:=[_,_])));go_wp2_with fail
      go_ret2
      exact HE.out
     ·have bc:((1:Int)==ac)=false:=by simp only[beq_eq_false_iff_ne,ne_eq];exact fun h=>hc h.symm
      have HNC:=za hc;clear hc
      by_cases h1:st1=1
      ·have b1:(st1 != 1)=false:=by simpa using h1
       have H1T:=za h1;clear h1
       by_cases h2:sx=2
       ·have b2:(sx != 2)=false:=by simpa using h2
        have H2T:=za h2;clear h2
        go_wp2_with (with_reducible refine zb 39 rfl (by kernel_rfl) 26 (.tmp 5) rfl (g+1) 0 rfl SX _ RSX.out Tryz.underlying26 rfl SI.out ?_)
        refine(KS.out _ _ H2.out).mono ?_;rintro e w3 ⟨rfl,h3⟩;have H3:=za h3;obtain⟨r9,-⟩:=QX.out _ _ h3 (by simp);have R9:=za r9;clear h3 r9 H2 RSX
        cases RS with
        | false=>
         have HE:=za (CP0.out _ (NO.out fun h=>by have:=h.2.2.2.2.1;rw[HRS.out]at this;cases this) _ (H3.out.weaken (A:=[_,_])));go_wp2_with fail
         go_ret2
         exact HE.out
        | true=>
         have HR:=za (show landT t 1 s=([setC 1 s,actC 1],0) by
          unfold landT
          rw[if_pos ⟨HV.out,rfl,fun h=>HNC.out (HAC.out.symm.trans h.symm),(show t.at_ 1=t.s1 from rfl) ▸ HS1.out.trans H1T.out,HRS.out,HSX.out.trans H2T.out⟩])
         have b1:=yx 1 s SOK.out;have b2:=ja 1;have ok1:(setC 1 s).tos.Ok:=SOK.out;have ok2:(actC 1).tos.Ok:=zS_ok;have b3:=run_bs_cg2 (setC 1 s) (actC 1) ok1 ok2
         have row:=fun(b:Nat)=>row_two (g:=b) ok1 ok2
         rw[HSC.out]at b1;obtain⟨C1,hC1⟩:∃y,(setC 1 s).cells=y:=⟨_,rfl⟩;obtain⟨C2,hC2⟩:∃y,(actC 1).cells=y:=⟨_,rfl⟩;rw[hC1]at b1 b3 row;rw[hC2]at b2 b3 row;have B1:=za b1;have B2:=za b2;have B3:=za b3;have ROW:=za row;clear b1 b2 b3 row hC1 hC2 ok1 ok2
         go_wp2_with (first|(with_reducible refine zb 44 rfl (by kernel_rfl) 26 (.tmp 5) rfl (g+1) 0 rfl SX _ R9.out Tryz.underlying26 rfl SI.out ?_)|(with_reducible refine zh rfl 147 _ rfl _ ?_ (B1.out _) ?_;·go_simp)|(with_reducible refine zh rfl 147 _ rfl _ ?_ (B2.out _) ?_;·go_simp)|(refine zw rfl 94 2 _ rfl _ (by kernel_rfl) B3.out H3.out ?_;intro b1 w5 h5;refine Hid.out ?_))
         refine za ?_;have HE:=za (CP.out _ _ HR.out _ _ _ _ (ROW.out b1) (St.mid (A:=[_]) (B:=[_,_]) h5));clear h5;go_wp2_with fail
         go_ret2
         exact HE.out
       ·have b2:(sx != 2)=true:=by simpa using h2
        have HE:=za (CP0.out _ (NO.out fun h=>h2 (HSX.out.symm.trans h.2.2.2.2.2)) _ (H2.out.weaken (A:=[_,_])));clear h2;go_wp2_with fail
        go_ret2
        exact HE.out
      ·have b1:(st1 != 1)=true:=by simpa using h1
       have HE:=za (CP0.out _ (NO.out fun h=>h1 (HS1.out.symm.trans h.2.2.2.1)) _ (H2.out.weaken (A:=[_,_])));clear h1;go_wp2_with fail
       go_ret2
       exact HE.out
end
end Go.Proofs.YtnjnooeldkideaaGreatDoor
